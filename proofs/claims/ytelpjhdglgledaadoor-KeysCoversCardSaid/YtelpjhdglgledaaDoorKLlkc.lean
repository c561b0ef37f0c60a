/- No element of the cover stands for a destroyed chunk, and each other chunk has one. -/
import Derived.Test.YtelpjhdglgledaaDoorK21
namespace Go.Bu.W
open Sp
def w_lkc : Way := wayU [0, 1, 4, 5, 6, 7, 8, 9, 10, 11, 12, 13, 14, 15, 19, 29, 50, 56, 77, 87, 106] 120 [5,10,11,13,23,30]
abbrev goR (g : Nat → Bool) : AV := .arr 4096 1 (fun i => .sb (g i))
abbrev abR (a : Nat → Nat) : AV := .arr 4096 1 (fun i => .i (a i))
abbrev slB (id : Nat) : AV := .sl id [] 0 4096 4096 true 1
def S_lkc5 (ex : Bool) (ids : List Nat) (k : List Cv) : St := { tm := [(1, u16A ex ids), (5, .sb true), (6, .ptr 6 [])], hp := [(6, .c (ksA false k))], seen := [6] }
def I_lkc (ex : Bool) (ids : List Nat) (k : Nat → List Cv) (g : Nat → Nat → Bool) (i : Nat) : St := { tm := [(1, u16A ex ids), (5, .sb true), (6, .ptr 6 []), (7, slB 7), (8, .i i)], hp := [(6, .c (ksA false (k i))), (7, .c (goR (g i)))], seen := [6, 7] }
def S_lkc10 (ex : Bool) (ids : List Nat) (k : List Cv) (g : Nat → Bool) (i : Nat) : St := { tm := [(1, u16A ex ids), (5, .sb true), (6, .ptr 6 []), (7, slB 7), (8, .i i)], hp := [(6, .c (ksA false k)), (7, .c (goR g))], seen := [6, 7] }
def S_lkc13 (k : List Cv) (g : Nat → Bool) : St := { tm := [(5, .sb true), (6, .ptr 6 []), (7, slB 7)], hp := [(6, .c (ksA false k)), (7, .c (goR g))], seen := [6, 7] }
def I_lkv1 (k : List Cv) (g : Nat → Bool) (a : Nat → Nat → Nat) (i : Nat) : St := { tm := [(5, .sb true), (6, .ptr 6 []), (7, slB 7), (9, slB 9), (10, .i i)], hp := [(6, .c (ksA false k)), (7, .c (goR g)), (9, .c (abR (a i)))], seen := [6, 7, 9] }
def I_lkv2 (k : List Cv) (g : Nat → Bool) (i : Nat) (c : Cv) (n : Int) (lo : Nat) (b : Nat → Nat → Nat) (j : Nat) : St := { tm := [(5, .sb true), (6, .ptr 6 []), (7, slB 7), (9, slB 9), (10, .i i), (11, .ptr 11 []), (12, .i n), (13, .i (lo + j : Nat))], hp := [(6, .c (ksA false k)), (7, .c (goR g)), (9, .c (abR (b j))), (11, .c (cvA c))], seen := [6, 7, 9, 11] }
def S_lkc23 (k : List Cv) (g : Nat → Bool) (a : Nat → Nat) : St := { tm := [(5, .sb true), (6, .ptr 6 []), (7, slB 7), (9, slB 9)], hp := [(6, .c (ksA false k)), (7, .c (goR g)), (9, .c (abR a))], seen := [6, 7, 9] }
def I_lkv3 (k : List Cv) (g : Nat → Bool) (a : Nat → Nat) (l : Nat → Nat) (i : Nat) : St := { tm := [(5, .sb true), (6, .ptr 6 []), (7, slB 7), (9, slB 9), (14, .i (l i)), (15, .i i)], hp := [(6, .c (ksA false k)), (7, .c (goR g)), (9, .c (abR a))], seen := [6, 7, 9] }
def S_lkc30 (k : List Cv) (l : Int) : St := { tm := [(5, .sb true), (6, .ptr 6 []), (14, .i l)], hp := [(6, .c (ksA false k))], seen := [6] }

theorem lkc_A (s : Nat) (ex : Bool) (ids : List Nat) {D : Dom} (K : Nat) (Φ : Ex → St → Prop) :
  (Holds C P 120 D K Φ (vc C w_lkc b_lkc [] (start [u8 s, u16A ex ids] []) lf)) =
  (Fun W.C W.P 11 [] [] (AV.sb true) [] ∧
 (True ∧
 (((decide ((((List.length ids) : Nat) : Int) > (8 : Int))) = true →
 (Φ Ex.ret (St.mk [(0, (AV.v (Value.int IntKind.u8 ((s : Nat) : Int)))), (1, (W.u16A ex ids)), (4, (AV.sb true)), (5, (AV.sb true)), (19, (AV.v (Value.bool true)))] [] []))) ∧
 ((decide ((((List.length ids) : Nat) : Int) > (8 : Int))) = false →
 (Fun W.C W.P 18 [(AV.dat 1 false 1 (fun (i : Nat) => (nthD [(AV.v (Value.int IntKind.u8 ((s : Nat) : Int)))] (0 + i) (AV.v (Value.tuple (List.toArray []))))))] [] (W.kyA (Sp.sumN [s])) [] ∧
  ((∀ (i : Nat), ((i < 32) → True)) ∧
  (Fun W.C W.P 17 [(W.kyA (Sp.sumN [s]))] [] (W.ksA false (W.newL (Sp.sumN [s]))) [] ∧
  ((((true = true) ∧ (true = true)) ∧ True) ∧
  (∃ (S2 : St), Ent W.C 120 D K (St.mk [(0, (AV.v (Value.int IntKind.u8 ((s : Nat) : Int)))), (1, (W.u16A ex ids)), (4, (AV.v (Value.bool false))), (5, (AV.sb true)), (6, (AV.ptr 6 [])), (19, (AV.v (Value.bool false)))] [(6, (Blk.c (W.ksA false (W.newL (Sp.sumN [s]))))), (22, (Blk.c (AV.st [(AV.v (Value.int IntKind.u8 ((s : Nat) : Int)))])))] [6, 22]) S2 ∧ Holds W.C W.P 120 D K Φ (cutAt W.C w_lkc b_lkc [1, 1, 1, 1, 0] S2 (after W.C w_lkc b_lkc [1, 1, 1, 1, 0] [] lf))))))))))) := by kernel_rfl
set_option maxRecDepth 1000000 in
theorem lkc_C5 (ex : Bool) (ids : List Nat) (k : List Cv) {D : Dom} (K : Nat) (Φ : Ex → St → Prop) :
  (Holds C P 120 D K Φ (cutAt C w_lkc b_lkc [1, 1, 1, 1, 0] (S_lkc5 ex ids k) (after C w_lkc b_lkc [1, 1, 1, 1, 0] [] lf))) =
  ((((0 : Int) ≤ (4096 : Int)) ∧ ((4096 : Int) ≤ (4096 : Int))) ∧
 ((((4096 : Int) ≤ (281474976710656 : Int)) ∧ ((4096 : Int) ≤ (9223372036854775807 : Int))) ∧
 (LoopOK W.C W.P 120 D K (bodyAt b_lkc [1, 1, 1, 1, 1, 0, 1, 0]) (St.mk [(1, (W.u16A ex ids)), (5, (AV.sb true)), (6, (AV.ptr 6 [])), (7, (AV.sl 25 [] 0 4096 4096 true 1)), (8, (AV.i (0 : Int)))] [(6, (Blk.c (W.ksA false k))), (25, (Blk.c (AV.arr 4096 1 (fun (x : Nat) => (AV.v (Value.bool false))))))] [25, 6]) (fun (e : Ex) (S' : St) => Holds W.C W.P 120 D K Φ (after W.C w_lkc b_lkc [1, 1, 1, 1, 1, 0, 1, 0] [] lf e S'))))) := by kernel_rfl
noncomputable abbrev bd_lkc_0 : Code := bodyAt (b_lkc) [1, 1, 1, 1, 1, 0, 1, 0]
theorem ok_lkc_0 : codeOK bd_lkc_0 = true := by kernel_rfl
noncomputable abbrev rest_lkc_0 (D : Dom) (K : Nat) (Φ : Ex → St → Prop) : Ex → St → Prop := fun e S' => Holds C P 120 D K Φ (after C w_lkc (b_lkc) [1, 1, 1, 1, 1, 0, 1, 0] [] lf e S')
set_option maxRecDepth 1000000 in
theorem lkc_L0 (ex : Bool) (ids : List Nat) (k : Nat → List Cv) (g : Nat → Nat → Bool) (i : Nat) {D : Dom} (K : Nat) (Φ : Ex → St → Prop) :
  (Holds C P 120 D K (RoundQ C 120 D K (I_lkc ex ids k g) (fun i => i ≤ ids.length) (fun i => ids.length - i) ((fun i => ids.length - i) (i)) (rest_lkc_0 D K Φ)) (vc C w_lkc bd_lkc_0 [] ((I_lkc ex ids k g) (i)) lf)) =
  (((decide (((i : Nat) : Int) < (((List.length ids) : Nat) : Int))) = true →
 ((((0 : Int) ≤ ((i : Nat) : Int)) ∧ (((i : Nat) : Int) < (((List.length ids) : Nat) : Int))) ∧
  ((I64 (((List.getD ids i 0) : Nat) : Int)) ∧
  (((4096 : Int) ≠ (0 : Int)) ∧
  (Fun W.C W.P 13 [(W.ksA false (k i)), (AV.i (Int.tmod (((List.getD ids i 0) : Nat) : Int) (4096 : Int)))] [] (W.ksA false (W.desL (W.toKs (W.ksA false (k i))) (Int.tmod (((List.getD ids i 0) : Nat) : Int) (4096 : Int)))) [] ∧
  ((((true = true) ∧ (true = true)) ∧ True) ∧
  (∃ (S2 : St), Ent W.C 120 D K (St.mk [(1, (W.u16A ex ids)), (5, (AV.sb true)), (6, (AV.ptr 6 [])), (7, (AV.sl 7 [] 0 4096 4096 true 1)), (8, (AV.i ((i : Nat) : Int))), (29, (AV.v (Value.bool true)))] [(6, (Blk.c (W.ksA false (W.desL (W.toKs (W.ksA false (k i))) (Int.tmod (((List.getD ids i 0) : Nat) : Int) (4096 : Int)))))), (7, (Blk.c (AV.arr 4096 1 (fun (i1 : Nat) => (AV.sb (g i i1))))))] [6, 7]) S2 ∧ Holds W.C W.P 120 D K (RoundQ C 120 D K (I_lkc ex ids k g) (fun i => i ≤ ids.length) (fun i => ids.length - i) ((fun i => ids.length - i) (i)) (rest_lkc_0 D K Φ)) (cutAt W.C w_lkc bd_lkc_0 [1, 0, 0, 1, 0] S2 (after W.C w_lkc bd_lkc_0 [1, 0, 0, 1, 0] [] lf))))))))) ∧
 ((decide (((i : Nat) : Int) < (((List.length ids) : Nat) : Int))) = false →
 (∃ (S2 : St), Ent W.C 120 D K (St.mk [(1, (W.u16A ex ids)), (5, (AV.sb true)), (6, (AV.ptr 6 [])), (7, (AV.sl 7 [] 0 4096 4096 true 1)), (8, (AV.i ((i : Nat) : Int))), (29, (AV.v (Value.bool false)))] [(6, (Blk.c (W.ksA false (k i)))), (7, (Blk.c (AV.arr 4096 1 (fun (i1 : Nat) => (AV.sb (g i i1))))))] [6, 7]) S2 ∧ Holds W.C W.P 120 D K Φ (cutAt W.C w_lkc b_lkc [1, 1, 1, 1, 1, 1, 0] S2 (after W.C w_lkc b_lkc [1, 1, 1, 1, 1, 1, 0] [] lf))))) := by kernel_rfl
set_option maxRecDepth 1000000 in
theorem lkc_C10 (ex : Bool) (ids : List Nat) (k : List Cv) (g : Nat → Bool) (i : Nat) {D : Dom} (K : Nat) (Φ : Ex → St → Prop) :
  (Holds C P 120 D K Φ (cutAt C w_lkc bd_lkc_0 [1, 0, 0, 1, 0] (S_lkc10 ex ids k g i) (after C w_lkc bd_lkc_0 [1, 0, 0, 1, 0] [] lf))) =
  ((((0 : Int) ≤ ((i : Nat) : Int)) ∧ (((i : Nat) : Int) < (((List.length ids) : Nat) : Int))) ∧
 ((I64 (((List.getD ids i 0) : Nat) : Int)) ∧
 (((4096 : Int) ≠ (0 : Int)) ∧
 ((((0 : Int) ≤ (Int.tmod (((List.getD ids i 0) : Nat) : Int) (4096 : Int))) ∧ ((Int.tmod (((List.getD ids i 0) : Nat) : Int) (4096 : Int)) < (4096 : Int))) ∧
 (∃ (S2 : St), Ent W.C 120 D K (St.mk [(1, (W.u16A ex ids)), (5, (AV.sb true)), (6, (AV.ptr 6 [])), (7, (AV.sl 7 [] 0 4096 4096 true 1)), (8, (AV.i ((i : Nat) : Int)))] [(6, (Blk.c (W.ksA false k))), (7, (Blk.c (AV.arr 4096 1 (fun (j : Nat) => (if (j = (0 + (Int.toNat (Int.tmod (((List.getD ids i 0) : Nat) : Int) (4096 : Int))))) then (AV.v (Value.bool true)) else (AV.sb (g j)))))))] [6, 7]) S2 ∧ Holds W.C W.P 120 D K Φ (cutAt W.C w_lkc bd_lkc_0 [1, 0, 0, 1, 1, 0] S2 (after W.C w_lkc bd_lkc_0 [1, 0, 0, 1, 1, 0] [] lf))))))) := by kernel_rfl
set_option maxRecDepth 1000000 in
theorem lkc_C11 (ex : Bool) (ids : List Nat) (k : List Cv) (g : Nat → Bool) (i : Nat) {D : Dom} (K : Nat) (Φ : Ex → St → Prop) :
  (Holds C P 120 D K Φ (cutAt C w_lkc bd_lkc_0 [1, 0, 0, 1, 1, 0] (S_lkc10 ex ids k g i) (after C w_lkc bd_lkc_0 [1, 0, 0, 1, 1, 0] [] lf))) =
  (Fun W.C W.P 14 [(W.ksA false k)] [] (AV.sb (W.validB (W.toKs (W.ksA false k)))) [] ∧
 (True ∧
 (((! (W.validB (W.toKs (W.ksA false k)))) = true →
 (Φ Ex.ret (St.mk [(1, (W.u16A ex ids)), (4, (AV.v (Value.bool false))), (5, (AV.sb true)), (6, (AV.ptr 6 [])), (7, (AV.sl 7 [] 0 4096 4096 true 1)), (8, (AV.i ((i : Nat) : Int))), (50, (AV.v (Value.bool true)))] [(6, (Blk.c (W.ksA false k))), (7, (Blk.c (AV.arr 4096 1 (fun (i1 : Nat) => (AV.sb (g i1))))))] [6, 7]))) ∧
 ((! (W.validB (W.toKs (W.ksA false k)))) = false →
 ((I64 (((i + 1) : Nat) : Int)) ∧
  (Φ Ex.normal (St.mk [(1, (W.u16A ex ids)), (5, (AV.sb true)), (6, (AV.ptr 6 [])), (7, (AV.sl 7 [] 0 4096 4096 true 1)), (8, (AV.i (((i + 1) : Nat) : Int))), (50, (AV.v (Value.bool false)))] [(6, (Blk.c (W.ksA false k))), (7, (Blk.c (AV.arr 4096 1 (fun (i1 : Nat) => (AV.sb (g i1))))))] [6, 7]))))))) := by kernel_rfl
set_option maxRecDepth 1000000 in
theorem lkc_C13 (k : List Cv) (g : Nat → Bool) {D : Dom} (K : Nat) (Φ : Ex → St → Prop) :
  (Holds C P 120 D K Φ (cutAt C w_lkc b_lkc [1, 1, 1, 1, 1, 1, 0] (S_lkc13 k g) (after C w_lkc b_lkc [1, 1, 1, 1, 1, 1, 0] [] lf))) =
  ((((0 : Int) ≤ (4096 : Int)) ∧ ((4096 : Int) ≤ (4096 : Int))) ∧
 ((((32768 : Int) ≤ (281474976710656 : Int)) ∧ ((4096 : Int) ≤ (9223372036854775807 : Int))) ∧
 (LoopOK W.C W.P 120 D K (bodyAt b_lkc [1, 1, 1, 1, 1, 1, 1, 0, 1, 0]) (St.mk [(5, (AV.sb true)), (6, (AV.ptr 6 [])), (7, (AV.sl 7 [] 0 4096 4096 true 1)), (9, (AV.sl 51 [] 0 4096 4096 true 1)), (10, (AV.i (0 : Int)))] [(6, (Blk.c (W.ksA false k))), (7, (Blk.c (AV.arr 4096 1 (fun (i : Nat) => (AV.sb (g i)))))), (51, (Blk.c (AV.arr 4096 1 (fun (x : Nat) => (AV.i (0 : Int))))))] [51, 6, 7]) (fun (e : Ex) (S' : St) => Holds W.C W.P 120 D K Φ (after W.C w_lkc b_lkc [1, 1, 1, 1, 1, 1, 1, 0, 1, 0] [] lf e S'))))) := by kernel_rfl
noncomputable abbrev bd_lkc_1 : Code := bodyAt (b_lkc) [1, 1, 1, 1, 1, 1, 1, 0, 1, 0]
theorem ok_lkc_1 : codeOK bd_lkc_1 = true := by kernel_rfl
noncomputable abbrev rest_lkc_1 (D : Dom) (K : Nat) (Φ : Ex → St → Prop) : Ex → St → Prop := fun e S' => Holds C P 120 D K Φ (after C w_lkc (b_lkc) [1, 1, 1, 1, 1, 1, 1, 0, 1, 0] [] lf e S')
set_option maxRecDepth 1000000 in
theorem lkc_L1 (k : List Cv) (g : Nat → Bool) (a : Nat → Nat → Nat) (i : Nat) {D : Dom} (K : Nat) (Φ : Ex → St → Prop) :
  (Holds C P 120 D K (RoundQ C 120 D K (I_lkv1 k g a) (fun i => i ≤ k.length) (fun i => k.length - i) ((fun i => k.length - i) (i)) (rest_lkc_1 D K Φ)) (vc C w_lkc bd_lkc_1 [] ((I_lkv1 k g a) (i)) lf)) =
  (((decide (((i : Nat) : Int) < (((List.length k) : Nat) : Int))) = true →
 ((((0 : Int) ≤ ((i : Nat) : Int)) ∧ (((i : Nat) : Int) < (((List.length k) : Nat) : Int))) ∧
  ((W.ShC) ∧
  (((0 : Int) ≤ (W.Cv.d (W.cAt k i))) ∧
  ((I64 ((W.Cv.a (W.cAt k i)) * (bShr IntKind.i64 (4096 : Int) (W.Cv.d (W.cAt k i))))) ∧
  (LoopOK W.C W.P 120 D K (bodyAt bd_lkc_1 [1, 0, 0, 1, 1, 1, 0]) (St.mk [(5, (AV.sb true)), (6, (AV.ptr 6 [])), (7, (AV.sl 7 [] 0 4096 4096 true 1)), (9, (AV.sl 9 [] 0 4096 4096 true 1)), (10, (AV.i ((i : Nat) : Int))), (11, (AV.ptr 11 [])), (12, (AV.i (bShr IntKind.i64 (4096 : Int) (W.Cv.d (W.cAt k i))))), (13, (AV.i ((W.Cv.a (W.cAt k i)) * (bShr IntKind.i64 (4096 : Int) (W.Cv.d (W.cAt k i)))))), (56, (AV.v (Value.bool true)))] [(6, (Blk.c (W.ksA false k))), (7, (Blk.c (AV.arr 4096 1 (fun (i1 : Nat) => (AV.sb (g i1)))))), (9, (Blk.c (AV.arr 4096 1 (fun (i1 : Nat) => (AV.i (((a i i1) : Nat) : Int)))))), (11, (Blk.c (W.cvA (W.cAt k i))))] [11, 6, 7, 9]) (fun (e : Ex) (S' : St) => Holds W.C W.P 120 D K (RoundQ C 120 D K (I_lkv1 k g a) (fun i => i ≤ k.length) (fun i => k.length - i) ((fun i => k.length - i) (i)) (rest_lkc_1 D K Φ)) (after W.C w_lkc bd_lkc_1 [1, 0, 0, 1, 1, 1, 0] [] lf e S')))))))) ∧
 ((decide (((i : Nat) : Int) < (((List.length k) : Nat) : Int))) = false →
 (∃ (S2 : St), Ent W.C 120 D K (St.mk [(5, (AV.sb true)), (6, (AV.ptr 6 [])), (7, (AV.sl 7 [] 0 4096 4096 true 1)), (9, (AV.sl 9 [] 0 4096 4096 true 1)), (10, (AV.i ((i : Nat) : Int))), (56, (AV.v (Value.bool false)))] [(6, (Blk.c (W.ksA false k))), (7, (Blk.c (AV.arr 4096 1 (fun (i1 : Nat) => (AV.sb (g i1)))))), (9, (Blk.c (AV.arr 4096 1 (fun (i1 : Nat) => (AV.i (((a i i1) : Nat) : Int))))))] [6, 7, 9]) S2 ∧ Holds W.C W.P 120 D K Φ (cutAt W.C w_lkc b_lkc [1, 1, 1, 1, 1, 1, 1, 1, 0] S2 (after W.C w_lkc b_lkc [1, 1, 1, 1, 1, 1, 1, 1, 0] [] lf))))) := by kernel_rfl
noncomputable abbrev bd_lkc_2 : Code := bodyAt (bd_lkc_1) [1, 0, 0, 1, 1, 1, 0]
theorem ok_lkc_2 : codeOK bd_lkc_2 = true := by kernel_rfl
noncomputable abbrev rest_lkc_2 (D : Dom) (K : Nat) (Φ : Ex → St → Prop) : Ex → St → Prop := fun e S' => Holds C P 120 D K Φ (after C w_lkc (bd_lkc_1) [1, 0, 0, 1, 1, 1, 0] [] lf e S')
set_option maxRecDepth 1000000 in
theorem lkc_L2 (k : List Cv) (g : Nat → Bool) (i : Nat) (c : Cv) (n : Int) (lo m : Nat) (b : Nat → Nat → Nat) (j : Nat) {D : Dom} (K : Nat) (Φ : Ex → St → Prop) :
  (Holds C P 120 D K (RoundQ C 120 D K (I_lkv2 k g i c n lo b) (fun j => j ≤ m) (fun j => m - j) ((fun j => m - j) (j)) (rest_lkc_2 D K Φ)) (vc C w_lkc bd_lkc_2 [] ((I_lkv2 k g i c n lo b) (j)) lf)) =
  ((I64 ((W.Cv.a c) + (1 : Int))) ∧
 ((I64 (((W.Cv.a c) + (1 : Int)) * n)) ∧
 (((decide ((((lo + j) : Nat) : Int) < (((W.Cv.a c) + (1 : Int)) * n))) = true →
 ((((0 : Int) ≤ (((lo + j) : Nat) : Int)) ∧ ((((lo + j) : Nat) : Int) < (4096 : Int))) ∧
  ((I64 ((((b j (0 + (lo + j))) + 1) : Nat) : Int)) ∧
  ((((0 : Int) ≤ (((lo + j) : Nat) : Int)) ∧ ((((lo + j) : Nat) : Int) < (4096 : Int))) ∧
  ((I64 ((((lo + j) + 1) : Nat) : Int)) ∧
  ((RoundQ C 120 D K (I_lkv2 k g i c n lo b) (fun j => j ≤ m) (fun j => m - j) ((fun j => m - j) (j)) (rest_lkc_2 D K Φ)) Ex.normal (St.mk [(5, (AV.sb true)), (6, (AV.ptr 6 [])), (7, (AV.sl 7 [] 0 4096 4096 true 1)), (9, (AV.sl 9 [] 0 4096 4096 true 1)), (10, (AV.i ((i : Nat) : Int))), (11, (AV.ptr 11 [])), (12, (AV.i n)), (13, (AV.i ((((lo + j) + 1) : Nat) : Int))), (77, (AV.v (Value.bool true)))] [(6, (Blk.c (W.ksA false k))), (7, (Blk.c (AV.arr 4096 1 (fun (i1 : Nat) => (AV.sb (g i1)))))), (9, (Blk.c (AV.arr 4096 1 (fun (j1 : Nat) => (if (j1 = (0 + (lo + j))) then (AV.i ((((b j (0 + (lo + j))) + 1) : Nat) : Int)) else (AV.i (((b j j1) : Nat) : Int))))))), (11, (Blk.c (W.cvA c)))] [6, 7, 9, 11]))))))) ∧
 ((decide ((((lo + j) : Nat) : Int) < (((W.Cv.a c) + (1 : Int)) * n))) = false →
 ((I64 (((i + 1) : Nat) : Int)) ∧
  (Φ Ex.normal (St.mk [(5, (AV.sb true)), (6, (AV.ptr 6 [])), (7, (AV.sl 7 [] 0 4096 4096 true 1)), (9, (AV.sl 9 [] 0 4096 4096 true 1)), (10, (AV.i (((i + 1) : Nat) : Int))), (11, (AV.ptr 11 [])), (12, (AV.i n)), (13, (AV.i (((lo + j) : Nat) : Int))), (77, (AV.v (Value.bool false)))] [(6, (Blk.c (W.ksA false k))), (7, (Blk.c (AV.arr 4096 1 (fun (i1 : Nat) => (AV.sb (g i1)))))), (9, (Blk.c (AV.arr 4096 1 (fun (i1 : Nat) => (AV.i (((b j i1) : Nat) : Int)))))), (11, (Blk.c (W.cvA c)))] [6, 7, 9, 11]))))))) := by kernel_rfl
set_option maxRecDepth 1000000 in
theorem lkc_C23 (k : List Cv) (g : Nat → Bool) (a : Nat → Nat) {D : Dom} (K : Nat) (Φ : Ex → St → Prop) :
  (Holds C P 120 D K Φ (cutAt C w_lkc b_lkc [1, 1, 1, 1, 1, 1, 1, 1, 0] (S_lkc23 k g a) (after C w_lkc b_lkc [1, 1, 1, 1, 1, 1, 1, 1, 0] [] lf))) =
  (LoopOK W.C W.P 120 D K (bodyAt b_lkc [1, 1, 1, 1, 1, 1, 1, 1, 1, 0, 1, 0]) (St.mk [(5, (AV.sb true)), (6, (AV.ptr 6 [])), (7, (AV.sl 7 [] 0 4096 4096 true 1)), (9, (AV.sl 9 [] 0 4096 4096 true 1)), (14, (AV.i (0 : Int))), (15, (AV.i (0 : Int)))] [(6, (Blk.c (W.ksA false k))), (7, (Blk.c (AV.arr 4096 1 (fun (i : Nat) => (AV.sb (g i)))))), (9, (Blk.c (AV.arr 4096 1 (fun (i : Nat) => (AV.i (((a i) : Nat) : Int))))))] [6, 7, 9]) (fun (e : Ex) (S' : St) => Holds W.C W.P 120 D K Φ (after W.C w_lkc b_lkc [1, 1, 1, 1, 1, 1, 1, 1, 1, 0, 1, 0] [] lf e S'))) := by kernel_rfl
noncomputable abbrev bd_lkc_3 : Code := bodyAt (b_lkc) [1, 1, 1, 1, 1, 1, 1, 1, 1, 0, 1, 0]
theorem ok_lkc_3 : codeOK bd_lkc_3 = true := by kernel_rfl
noncomputable abbrev rest_lkc_3 (D : Dom) (K : Nat) (Φ : Ex → St → Prop) : Ex → St → Prop := fun e S' => Holds C P 120 D K Φ (after C w_lkc (b_lkc) [1, 1, 1, 1, 1, 1, 1, 1, 1, 0, 1, 0] [] lf e S')
set_option maxRecDepth 1000000 in
theorem lkc_L3 (k : List Cv) (g : Nat → Bool) (a : Nat → Nat) (l : Nat → Nat) (i : Nat) {D : Dom} (K : Nat) (Φ : Ex → St → Prop) :
  (Holds C P 120 D K (RoundQ C 120 D K (I_lkv3 k g a l) (fun i => i ≤ 4096) (fun i => 4096 - i) ((fun i => 4096 - i) (i)) (rest_lkc_3 D K Φ)) (vc C w_lkc bd_lkc_3 [] ((I_lkv3 k g a l) (i)) lf)) =
  (((decide (((i : Nat) : Int) < (4096 : Int))) = true →
 ((((0 : Int) ≤ ((i : Nat) : Int)) ∧ (((i : Nat) : Int) < (4096 : Int))) ∧
  ((((0 : Int) ≤ ((i : Nat) : Int)) ∧ (((i : Nat) : Int) < (4096 : Int))) ∧
  (((! ((g (0 + i)) == ((((a (0 + i)) : Nat) : Int) == (0 : Int)))) = true →
  (Φ Ex.ret (St.mk [(4, (AV.v (Value.bool false))), (5, (AV.sb true)), (6, (AV.ptr 6 [])), (7, (AV.sl 7 [] 0 4096 4096 true 1)), (9, (AV.sl 9 [] 0 4096 4096 true 1)), (14, (AV.i (((l i) : Nat) : Int))), (15, (AV.i ((i : Nat) : Int))), (87, (AV.v (Value.bool true))), (106, (AV.v (Value.bool true)))] [(6, (Blk.c (W.ksA false k))), (7, (Blk.c (AV.arr 4096 1 (fun (i1 : Nat) => (AV.sb (g i1)))))), (9, (Blk.c (AV.arr 4096 1 (fun (i1 : Nat) => (AV.i (((a i1) : Nat) : Int))))))] [6, 7, 9]))) ∧
  ((! ((g (0 + i)) == ((((a (0 + i)) : Nat) : Int) == (0 : Int)))) = false →
  ((((0 : Int) ≤ ((i : Nat) : Int)) ∧ (((i : Nat) : Int) < (4096 : Int))) ∧
   (((decide ((((a (0 + i)) : Nat) : Int) > (1 : Int))) = true →
   (Φ Ex.ret (St.mk [(4, (AV.v (Value.bool false))), (5, (AV.sb true)), (6, (AV.ptr 6 [])), (7, (AV.sl 7 [] 0 4096 4096 true 1)), (9, (AV.sl 9 [] 0 4096 4096 true 1)), (14, (AV.i (((l i) : Nat) : Int))), (15, (AV.i ((i : Nat) : Int))), (87, (AV.v (Value.bool true))), (106, (AV.v (Value.bool true)))] [(6, (Blk.c (W.ksA false k))), (7, (Blk.c (AV.arr 4096 1 (fun (i1 : Nat) => (AV.sb (g i1)))))), (9, (Blk.c (AV.arr 4096 1 (fun (i1 : Nat) => (AV.i (((a i1) : Nat) : Int))))))] [6, 7, 9]))) ∧
   ((decide ((((a (0 + i)) : Nat) : Int) > (1 : Int))) = false →
   ((((0 : Int) ≤ ((i : Nat) : Int)) ∧ (((i : Nat) : Int) < (4096 : Int))) ∧
    ((I64 ((((l i) + (a (0 + i))) : Nat) : Int)) ∧
    ((I64 (((i + 1) : Nat) : Int)) ∧
    ((RoundQ C 120 D K (I_lkv3 k g a l) (fun i => i ≤ 4096) (fun i => 4096 - i) ((fun i => 4096 - i) (i)) (rest_lkc_3 D K Φ)) Ex.normal (St.mk [(5, (AV.sb true)), (6, (AV.ptr 6 [])), (7, (AV.sl 7 [] 0 4096 4096 true 1)), (9, (AV.sl 9 [] 0 4096 4096 true 1)), (14, (AV.i ((((l i) + (a (0 + i))) : Nat) : Int))), (15, (AV.i (((i + 1) : Nat) : Int))), (87, (AV.v (Value.bool true))), (106, (AV.v (Value.bool false)))] [(6, (Blk.c (W.ksA false k))), (7, (Blk.c (AV.arr 4096 1 (fun (i1 : Nat) => (AV.sb (g i1)))))), (9, (Blk.c (AV.arr 4096 1 (fun (i1 : Nat) => (AV.i (((a i1) : Nat) : Int))))))] [6, 7, 9]))))))))))))) ∧
 ((decide (((i : Nat) : Int) < (4096 : Int))) = false →
 (∃ (S2 : St), Ent W.C 120 D K (St.mk [(5, (AV.sb true)), (6, (AV.ptr 6 [])), (7, (AV.sl 7 [] 0 4096 4096 true 1)), (9, (AV.sl 9 [] 0 4096 4096 true 1)), (14, (AV.i (((l i) : Nat) : Int))), (15, (AV.i ((i : Nat) : Int))), (87, (AV.v (Value.bool false)))] [(6, (Blk.c (W.ksA false k))), (7, (Blk.c (AV.arr 4096 1 (fun (i1 : Nat) => (AV.sb (g i1)))))), (9, (Blk.c (AV.arr 4096 1 (fun (i1 : Nat) => (AV.i (((a i1) : Nat) : Int))))))] [6, 7, 9]) S2 ∧ Holds W.C W.P 120 D K Φ (cutAt W.C w_lkc b_lkc [1, 1, 1, 1, 1, 1, 1, 1, 1, 1, 0] S2 (after W.C w_lkc b_lkc [1, 1, 1, 1, 1, 1, 1, 1, 1, 1, 0] [] lf))))) := by kernel_rfl
theorem lkc_C30 (k : List Cv) (l : Int) {D : Dom} (K : Nat) (Φ : Ex → St → Prop) :
  (Holds C P 120 D K Φ (cutAt C w_lkc b_lkc [1, 1, 1, 1, 1, 1, 1, 1, 1, 1, 0] (S_lkc30 k l) (after C w_lkc b_lkc [1, 1, 1, 1, 1, 1, 1, 1, 1, 1, 0] [] lf))) =
  ((true = true →
 (Fun W.C W.P 20 [(W.ksA false k)] [] (AV.i (W.leftI (W.toKs (W.ksA false k)))) [] ∧
  (True ∧
  (Φ Ex.ret (St.mk [(4, (AV.sb ((W.leftI (W.toKs (W.ksA false k))) == l))), (5, (AV.sb true)), (6, (AV.ptr 6 [])), (14, (AV.i l))] [(6, (Blk.c (W.ksA false k)))] [6]))))) ∧
 (true = false →
 (Φ Ex.ret (St.mk [(4, (AV.v (Value.bool false))), (5, (AV.sb true)), (6, (AV.ptr 6 [])), (14, (AV.i l))] [(6, (Blk.c (W.ksA false k)))] [6])))) := by kernel_rfl
/-- What is destroyed after i steps. -/
def goD (ids : List Nat) : Nat → List Int
  | 0 => []
  | i + 1 => ((ids.getD i 0 % 4096 : Nat) : Int) :: goD ids i
def leN (e : Nat → Bool) : Nat → Nat
  | 0 => 0
  | i + 1 => leN e i + (if e i = true then 0 else 1)
theorem leN_le (e : Nat → Bool) : ∀ i, leN e i ≤ i
  | 0 => Nat.le_refl 0
  | i + 1 => by
    have := leN_le e i
    unfold leN
    split <;> omega
theorem leN_cnt (X : Int → Bool) : ∀ n : Nat, cntX X 0 n = leN (fun p => X (p : Int)) n
  | 0 => rfl
  | n + 1 => by
    rw [cnt_add, leN_cnt X n]
    show _ = leN _ n + (if X (n : Int) = true then 0 else 1)
    congr 1
    show (List.filter (fun (k : Nat) => !X ((0 + (n : Int)) + (k : Int))) [0]).length = _
    rw [List.filter_cons, List.filter_nil, show (0 + (n : Int)) + ((0 : Nat) : Int) = (n : Int) by omega]
    cases X (n : Int) <;> rfl
def abN (k : List Cv) (i p : Nat) : Nat := if (List.range i).any (fun q => stB (cAt k q) (p : Int)) = true then 1 else 0
def inN (lo m : Nat) (a : Nat → Nat) (j p : Nat) : Nat := if lo ≤ p ∧ p < lo + j then a p + 1 else a p
theorem abN_le (k : List Cv) (i p : Nat) : abN k i p ≤ 1 := by unfold abN; split <;> omega
theorem abN_has {k : List Cv} (hv : VL k) (p : Nat) : abN k k.length p = if hasB k (p : Int) = true then 1 else 0 := by
  unfold abN
  have e : (List.range k.length).any (fun q => stB (cAt k q) (p : Int)) = hasB k (p : Int) := by
    rw [Bool.eq_iff_iff, List.any_eq_true, has_iff hv]
    exact ⟨fun ⟨q, hq, h⟩ => ⟨q, List.mem_range.1 hq, h⟩, fun ⟨q, hq, h⟩ => ⟨q, List.mem_range.2 hq, h⟩⟩
  rw [e]
theorem cv_range {c : Cv} (h : CvOK c) : (((loC c).toNat : Nat) : Int) = loC c ∧ (((szI c.d).toNat : Nat) : Int) = szI c.d ∧ hiC c = loC c + szI c.d ∧ hiC c ≤ 4096 := by
  obtain ⟨f1, f2, f3, _, _⟩ := cv_facts h
  have e := hi_lo c
  unfold loC at e ⊢
  refine ⟨by omega, by omega, e, by omega⟩
theorem abN_succ {k : List Cv} (hv : VL k) {i : Nat} (hi : i < k.length) (p : Nat) : inN (loC (cAt k i)).toNat (szI (cAt k i).d).toNat (abN k i) (szI (cAt k i).d).toNat p = abN k (i + 1) p := by
  have hc := hv.1 i hi
  obtain ⟨r1, r2, r3, r4⟩ := cv_range hc
  have hs := st_range hc (id := (p : Int))
  have ha : (List.range (i + 1)).any (fun q => stB (cAt k q) (p : Int)) = ((List.range i).any (fun q => stB (cAt k q) (p : Int)) || stB (cAt k i) (p : Int)) := by
    rw [List.range_succ, List.any_append]; simp
  unfold inN abN
  rw [ha]
  by_cases hst : stB (cAt k i) (p : Int) = true
  · obtain ⟨h1, h2⟩ := hs.1 hst
    have hno : (List.range i).any (fun q => stB (cAt k q) (p : Int)) = false := by
      rw [Bool.eq_false_iff]
      intro hx
      obtain ⟨q, hq, hx⟩ := List.any_eq_true.1 hx
      have hq := List.mem_range.1 hq
      have h3 := ((st_range (hv.1 q (by omega)) (id := (p : Int))).1 hx).2
      have h4 := hv.2 q i hq hi
      omega
    rw [hno, hst, if_pos (by omega)]; rfl
  · have hst2 : stB (cAt k i) (p : Int) = false := by rwa [Bool.not_eq_true] at hst
    rw [hst2, Bool.or_false, if_neg fun hx => hst (hs.2 (by omega))]
set_option maxRecDepth 1000000 in
theorem lkc_fun (s : Nat) (hs : s < 256) (ex : Bool) (ids : List Nat) (hi : ∀ i, i < ids.length → ids.getD i 0 < 65536) : Fun C P F_lkc [u8 s, u16A ex ids] [] (.sb true) [] := by
  refine in_lkc (W := w_lkc) rfl 0 (by simp) rfl (fun id h => absurd rfl h) fun D => ?_
  refine of_eq (lkc_A s ex ids 0 _) ?_
  have hb : B8 1 (fun (i : Nat) => (nthD [(AV.v (Value.int IntKind.u8 ((s : Nat) : Int)))] (0 + i) (AV.v (Value.tuple (List.toArray []))))) := fun i hi => by
    obtain rfl : i = 0 := by omega
    exact ⟨rfl, hs⟩
  refine ⟨sanity_fun, trivial, fun _ => post_tmp rfl (sm_same rfl), fun h8 => ?_⟩
  have h8 : ids.length ≤ 8 := by simp only [decide_eq_false_iff_not] at h8; omega
  obtain ⟨k, ek⟩ : ∃ k : Nat → List Cv, k = fun i => KV (seedK s) (goD ids i) := ⟨_, rfl⟩
  have kk : ∀ i, KOK (seedK s) (goD ids i) (k i) := fun i => ⟨by rw [ek], seed_ok s⟩
  have k0 : newL (sumN [s]) = k 0 := by rw [newL_KV, ek]; rfl
  clear ek
  refine ⟨rsum_call (ex := false) hb (.inr rfl) (by decide), fun _ _ => trivial, rnew_fun _, TT, cut_ok (S2 := S_lkc5 ex ids (k 0)) ?_ ?_⟩
  · rw [← k0]
    exact ent_of [(6, 6)] rfl (tm_cons rfl (sm_same rfl) (tm_cons rfl (sm_same rfl) (tm_cons rfl (sm_ptr rfl) tm_nil))) (hp_cons rfl rfl (sm_same rfl) hp_nil)
  refine of_eq (lkc_C5 ex ids (k 0) 0 _) ?_
  obtain ⟨g, eg⟩ : ∃ g : Nat → Nat → Bool, g = fun i (p : Nat) => inX (goD ids i) (p : Int) := ⟨_, rfl⟩
  have g0 : ∀ p, g 0 p = false := fun p => by rw [eg]; rfl
  have gp : ∀ i, g (i + 1) (ids.getD i 0 % 4096) = true := fun i => by rw [eg]; exact inX_self _ _
  have gn : ∀ i p, p ≠ ids.getD i 0 % 4096 → g (i + 1) p = g i p := fun i p h => by
    rw [eg]; exact inX_ne (by omega)
  have gx : ∀ i p, g i p = inX (goD ids i) (p : Int) := fun i p => by rw [eg]
  clear eg
  refine ⟨by decide, by decide, loop_inv (W := w_lkc) ctx mixed ok_lkc_0 (I_lkc ex ids k g) (fun i => i ≤ ids.length) (fun i => ids.length - i) 0 (Nat.zero_le _) ?_ fun i hi' => ?_⟩
  · exact ent_of [(6, 6), (25, 7)] rfl (tm_cons rfl (sm_same rfl) (tm_cons rfl (sm_same rfl) (tm_cons rfl (sm_ptr rfl) (tm_cons rfl (sm_sl rfl rfl (Nat.le_refl _) (Nat.le_refl _) (fun h => ⟨h, rfl⟩)) (tm_cons rfl (sm_same rfl) tm_nil))))) (hp_cons rfl rfl (sm_same rfl) (hp_cons rfl rfl (.inr ⟨rfl, rfl, fun j hj => .inr (by show Value.bool false = Value.bool _; rw [g0])⟩) hp_nil))
  refine of_eq (lkc_L0 ex ids k g i 0 _) ⟨fun h => ?_, fun h => ?_⟩
  · simp only [decide_eq_true_eq] at h
    have hlt : i < ids.length := by omega
    have hu := hi i hlt
    have dk : desL (k i) ((ids.getD i 0 % 4096 : Nat) : Int) = k (i + 1) := ((kk i).des (inR_mod _)).same (kk (i + 1)) fun id _ _ => Iff.rfl
    have fk := destroy_fun false (k i) ((ids.getD i 0 % 4096 : Nat) : Int) (kk i).n (kk i).v
    rw [toKs_A, tmod4096, dk]
    rw [dk] at fk
    refine ⟨(by first | omega | decide | (unfold I64; omega)), (by first | omega | decide | (unfold I64; omega)), by decide, fk, TT, cut_ok (S2 := S_lkc10 ex ids (k (i + 1)) (g i) i) (ent_of [(6, 6), (7, 7)] rfl (tm_cons rfl (sm_same rfl) (tm_cons rfl (sm_same rfl) (tm_cons rfl (sm_ptr rfl) (tm_cons rfl (sm_sl rfl rfl (Nat.le_refl _) (Nat.le_refl _) (fun h => ⟨h, rfl⟩)) (tm_cons rfl (sm_same rfl) tm_nil))))) (hp_cons rfl rfl (sm_same rfl) (hp_cons rfl rfl (sm_same rfl) hp_nil))) ?_⟩
    refine of_eq (lkc_C10 ex ids (k (i + 1)) (g i) i 0 _) ?_
    rw [tmod4096]
    have hm := Nat.mod_lt (ids.getD i 0) (show 0 < 4096 by decide)
    refine ⟨(by first | omega | decide | (unfold I64; omega)), (by first | omega | decide | (unfold I64; omega)), by decide, ⟨by omega, by omega⟩, cut_ok (S2 := S_lkc10 ex ids (k (i + 1)) (g (i + 1)) i) (ent_of [(6, 6), (7, 7)] rfl (tm_cons rfl (sm_same rfl) (tm_cons rfl (sm_same rfl) (tm_cons rfl (sm_ptr rfl) (tm_cons rfl (sm_sl rfl rfl (Nat.le_refl _) (Nat.le_refl _) (fun h => ⟨h, rfl⟩)) (tm_cons rfl (sm_same rfl) tm_nil))))) (hp_cons rfl rfl (sm_same rfl) (hp_cons rfl rfl (.inr ⟨rfl, rfl, fun j hj => ?_⟩) hp_nil))) ?_⟩
    · rw [Nat.zero_add, Int.toNat_natCast]
      dsimp only
      by_cases hj2 : j = ids.getD i 0 % 4096
      · rw [if_pos hj2, hj2]
        exact .inr (by show Value.bool true = Value.bool _; rw [gp])
      · rw [if_neg hj2]
        exact .inl (by show AV.sb _ = AV.sb _; rw [gn i j hj2])
    refine of_eq (lkc_C11 ex ids (k (i + 1)) (g (i + 1)) i 0 _) ?_
    rw [toKs_A]
    exact ⟨rvalid_fun false _ (by have := (kk (i + 1)).n; omega), trivial, nf_then (kk (i + 1)).v.valid ⟨(by first | omega | decide | (unfold I64; omega)), round_end (i + 1) (by omega) (ent_of [(6, 6), (7, 7)] rfl (tm_cons rfl (sm_same rfl) (tm_cons rfl (sm_same rfl) (tm_cons rfl (sm_ptr rfl) (tm_cons rfl (sm_sl rfl rfl (Nat.le_refl _) (Nat.le_refl _) (fun h => ⟨h, rfl⟩)) (tm_cons rfl (sm_same rfl) tm_nil))))) (hp_cons rfl rfl (sm_same rfl) (hp_cons rfl rfl (sm_same rfl) hp_nil))) (by dsimp only; omega)⟩⟩
  simp only [decide_eq_false_iff_not] at h
  obtain rfl : i = ids.length := by omega
  refine cut_ok (S2 := S_lkc13 (k ids.length) (g ids.length)) (ent_of [(6, 6), (7, 7)] rfl (tm_cons rfl (sm_same rfl) (tm_cons rfl (sm_ptr rfl) (tm_cons rfl (sm_sl rfl rfl (Nat.le_refl _) (Nat.le_refl _) (fun h => ⟨h, rfl⟩)) tm_nil))) (hp_cons rfl rfl (sm_same rfl) (hp_cons rfl rfl (sm_same rfl) hp_nil))) ?_
  have hk := kk ids.length
  have ge := gx ids.length
  obtain ⟨k, ek⟩ : ∃ k', k' = k ids.length := ⟨_, rfl⟩
  obtain ⟨e, ee⟩ : ∃ e, e = g ids.length := ⟨_, rfl⟩
  obtain ⟨R, eR⟩ : ∃ R, R = goD ids ids.length := ⟨_, rfl⟩
  rw [← ek, ← eR] at hk
  rw [← ee, ← eR] at ge
  rw [← ek, ← ee]
  clear ek ee eR
  have kv := hk.v
  have kn := hk.n
  refine of_eq (lkc_C13 k e 0 _) ⟨by decide, by decide, ?_⟩
  refine loop_inv (W := w_lkc) ctx mixed ok_lkc_1 (I_lkv1 k e (abN k)) (fun i => i ≤ k.length) (fun i => k.length - i) 0 (Nat.zero_le _) ?_ fun i hi' => ?_
  · exact ent_of [(6, 6), (7, 7), (51, 9)] rfl (tm_cons rfl (sm_same rfl) (tm_cons rfl (sm_ptr rfl) (tm_cons rfl (sm_sl rfl rfl (Nat.le_refl _) (Nat.le_refl _) (fun h => ⟨h, rfl⟩)) (tm_cons rfl (sm_sl rfl rfl (Nat.le_refl _) (Nat.le_refl _) (fun h => ⟨h, rfl⟩)) (tm_cons rfl (sm_same rfl) tm_nil))))) (hp_cons rfl rfl (sm_same rfl) (hp_cons rfl rfl (sm_same rfl) (hp_cons rfl rfl (sm_arr fun j hj => rfl) hp_nil)))
  refine of_eq (lkc_L1 k e (abN k) i 0 _) ⟨fun h => ?_, fun h => ?_⟩
  · simp only [decide_eq_true_eq] at h
    have hlt : i < k.length := by omega
    have hc := kv.1 i hlt
    have has := abN_succ kv hlt
    obtain ⟨c, ec⟩ : ∃ c, c = cAt k i := ⟨_, rfl⟩
    rw [← ec] at hc has ⊢
    obtain ⟨r1, r2, r3, r4⟩ := cv_range hc
    obtain ⟨f1, f2, f3, f4, f5⟩ := cv_facts hc
    obtain ⟨lo, elo⟩ : ∃ lo, lo = (loC c).toNat := ⟨_, rfl⟩
    obtain ⟨m, em⟩ : ∃ m, m = (szI c.d).toNat := ⟨_, rfl⟩
    rw [← elo, ← em] at has
    rw [← elo] at r1
    rw [← em] at r2
    have hn : bShr IntKind.i64 4096 c.d = szI c.d := rfl
    have hlo : c.a * szI c.d = (lo : Int) := r1.symm
    have hhi : (c.a + 1) * szI c.d = ((lo + m : Nat) : Int) := by
      have : hiC c = (lo : Int) + (m : Int) := by rw [r3, r1, r2]
      unfold hiC at this
      rw [this]; omega
    have h4 : lo + m ≤ 4096 := by omega
    have hca := hc.2.2.1
    rw [hn, hlo]
    refine ⟨(by first | omega | decide | (unfold I64; omega)), shC_t, hc.1, (by first | omega | decide | (unfold I64; omega)), loop_inv (W := w_lkc) ctx mixed ok_lkc_2 (I_lkv2 k e i c (szI c.d) lo (inN lo m (abN k i))) (fun j => j ≤ m) (fun j => m - j) 0 (Nat.zero_le _) ?_ fun j hj => ?_⟩
    · exact ent_of [(6, 6), (7, 7), (9, 9), (11, 11)] rfl (tm_cons rfl (sm_same rfl) (tm_cons rfl (sm_ptr rfl) (tm_cons rfl (sm_sl rfl rfl (Nat.le_refl _) (Nat.le_refl _) (fun h => ⟨h, rfl⟩)) (tm_cons rfl (sm_sl rfl rfl (Nat.le_refl _) (Nat.le_refl _) (fun h => ⟨h, rfl⟩)) (tm_cons rfl (sm_same rfl) (tm_cons rfl (sm_ptr rfl) (tm_cons rfl (sm_same rfl) (tm_cons rfl (sm_same rfl) tm_nil)))))))) (hp_cons rfl rfl (sm_same rfl) (hp_cons rfl rfl (sm_same rfl) (hp_cons rfl rfl (sm_arr fun p hp => (by unfold inN; rw [if_neg (by omega)])) (hp_cons rfl rfl (sm_same rfl) hp_nil))))
    refine of_eq (lkc_L2 k e i c (szI c.d) lo m (inN lo m (abN k i)) j 0 _) ?_
    rw [hhi]
    refine ⟨(by first | omega | decide | (unfold I64; omega)), (by first | omega | decide | (unfold I64; omega)), fun h2 => ?_, fun h2 => ?_⟩
    · simp only [decide_eq_true_eq] at h2
      have hj2 : j < m := by omega
      have hle := abN_le k i (lo + j)
      have hbj : inN lo m (abN k i) j (lo + j) = abN k i (lo + j) := by unfold inN; rw [if_neg (by omega)]
      rw [Nat.zero_add, hbj]
      refine ⟨(by first | omega | decide | (unfold I64; omega)), (by first | omega | decide | (unfold I64; omega)), (by first | omega | decide | (unfold I64; omega)), (by first | omega | decide | (unfold I64; omega)), round_end (j + 1) (by omega) (ent_of [(6, 6), (7, 7), (9, 9), (11, 11)] rfl (tm_cons rfl (sm_same rfl) (tm_cons rfl (sm_ptr rfl) (tm_cons rfl (sm_sl rfl rfl (Nat.le_refl _) (Nat.le_refl _) (fun h => ⟨h, rfl⟩)) (tm_cons rfl (sm_sl rfl rfl (Nat.le_refl _) (Nat.le_refl _) (fun h => ⟨h, rfl⟩)) (tm_cons rfl (sm_same rfl) (tm_cons rfl (sm_ptr rfl) (tm_cons rfl (sm_same rfl) (tm_cons rfl (sm_same rfl) tm_nil)))))))) (hp_cons rfl rfl (sm_same rfl) (hp_cons rfl rfl (sm_same rfl) (hp_cons rfl rfl (sm_arr fun p hp => ?_) (hp_cons rfl rfl (sm_same rfl) hp_nil))))) (by dsimp only; omega)⟩
      by_cases hpj : p = lo + j
      · rw [if_pos hpj, hpj]
        unfold inN
        rw [if_pos (by omega)]
      · rw [if_neg hpj]
        unfold inN
        by_cases h5 : lo ≤ p ∧ p < lo + j
        · rw [if_pos h5, if_pos (by omega)]
        · rw [if_neg h5, if_neg (by omega)]
    · simp only [decide_eq_false_iff_not] at h2
      obtain rfl : j = m := by omega
      exact ⟨(by first | omega | decide | (unfold I64; omega)), round_end (i + 1) (by omega) (ent_of [(6, 6), (7, 7), (9, 9)] rfl (tm_cons rfl (sm_same rfl) (tm_cons rfl (sm_ptr rfl) (tm_cons rfl (sm_sl rfl rfl (Nat.le_refl _) (Nat.le_refl _) (fun h => ⟨h, rfl⟩)) (tm_cons rfl (sm_sl rfl rfl (Nat.le_refl _) (Nat.le_refl _) (fun h => ⟨h, rfl⟩)) (tm_cons rfl (sm_same rfl) tm_nil))))) (hp_cons rfl rfl (sm_same rfl) (hp_cons rfl rfl (sm_same rfl) (hp_cons rfl rfl (sm_arr fun p hp => (by rw [has])) hp_nil)))) (by dsimp only; omega)⟩
  simp only [decide_eq_false_iff_not] at h
  obtain rfl : i = k.length := by omega
  refine cut_ok (S2 := S_lkc23 k e (fun p => if e p = true then 0 else 1)) (ent_of [(6, 6), (7, 7), (9, 9)] rfl (tm_cons rfl (sm_same rfl) (tm_cons rfl (sm_ptr rfl) (tm_cons rfl (sm_sl rfl rfl (Nat.le_refl _) (Nat.le_refl _) (fun h => ⟨h, rfl⟩)) (tm_cons rfl (sm_sl rfl rfl (Nat.le_refl _) (Nat.le_refl _) (fun h => ⟨h, rfl⟩)) tm_nil)))) (hp_cons rfl rfl (sm_same rfl) (hp_cons rfl rfl (sm_same rfl) (hp_cons rfl rfl (sm_arr fun p hp => ?_) hp_nil)))) ?_
  · have hin : inR (p : Int) = true := by simp [inR]; omega
    have h1 : abN k k.length p = if e p = true then 0 else 1 := by
      rw [abN_has kv, hk.B, hin, ge]
      cases inX R (p : Int) <;> rfl
    rw [h1]
  refine of_eq (lkc_C23 k e _ 0 _) ?_
  refine loop_inv (W := w_lkc) ctx mixed ok_lkc_3 (I_lkv3 k e (fun p => if e p = true then 0 else 1) (leN e)) (fun i => i ≤ 4096) (fun i => 4096 - i) 0 (Nat.zero_le _) ?_ fun i hi' => ?_
  · exact ent_of [(6, 6), (7, 7), (9, 9)] rfl (tm_cons rfl (sm_same rfl) (tm_cons rfl (sm_ptr rfl) (tm_cons rfl (sm_sl rfl rfl (Nat.le_refl _) (Nat.le_refl _) (fun h => ⟨h, rfl⟩)) (tm_cons rfl (sm_sl rfl rfl (Nat.le_refl _) (Nat.le_refl _) (fun h => ⟨h, rfl⟩)) (tm_cons rfl (sm_same rfl) (tm_cons rfl (sm_same rfl) tm_nil)))))) (hp_cons rfl rfl (sm_same rfl) (hp_cons rfl rfl (sm_same rfl) (hp_cons rfl rfl (sm_same rfl) hp_nil)))
  have hle := leN_le e i
  refine of_eq (lkc_L3 k e (fun p => if e p = true then 0 else 1) (leN e) i 0 _) ⟨fun h => ?_, fun h => ?_⟩
  · simp only [decide_eq_true_eq] at h
    have hlt : i < 4096 := by omega
    rw [Nat.zero_add]
    have x1 : (e i == (((if e i = true then 0 else 1 : Nat) : Int) == 0)) = true := by cases e i <;> rfl
    have x2 : decide (((if e i = true then 0 else 1 : Nat) : Int) > 1) = false := by cases e i <;> rfl
    have x3 : (if e i = true then 0 else 1 : Nat) ≤ 1 := by split <;> omega
    exact ⟨(by first | omega | decide | (unfold I64; omega)), (by first | omega | decide | (unfold I64; omega)), nf_then x1 ⟨(by first | omega | decide | (unfold I64; omega)), ff_then x2 ⟨(by first | omega | decide | (unfold I64; omega)), (by first | omega | decide | (unfold I64; omega)), (by first | omega | decide | (unfold I64; omega)), round_end (i + 1) hlt (ent_of [(6, 6), (7, 7), (9, 9)] rfl (tm_cons rfl (sm_same rfl) (tm_cons rfl (sm_ptr rfl) (tm_cons rfl (sm_sl rfl rfl (Nat.le_refl _) (Nat.le_refl _) (fun h => ⟨h, rfl⟩)) (tm_cons rfl (sm_sl rfl rfl (Nat.le_refl _) (Nat.le_refl _) (fun h => ⟨h, rfl⟩)) (tm_cons rfl (sm_same rfl) (tm_cons rfl (sm_same rfl) tm_nil)))))) (hp_cons rfl rfl (sm_same rfl) (hp_cons rfl rfl (sm_same rfl) (hp_cons rfl rfl (sm_same rfl) hp_nil)))) (by dsimp only; omega)⟩⟩⟩
  simp only [decide_eq_false_iff_not] at h
  obtain rfl : i = 4096 := by omega
  refine cut_ok (S2 := S_lkc30 k (leN e 4096 : Nat)) (ent_of [(6, 6)] rfl (tm_cons rfl (sm_same rfl) (tm_cons rfl (sm_ptr rfl) (tm_cons rfl (sm_same rfl) tm_nil))) (hp_cons rfl rfl (sm_same rfl) hp_nil)) ?_
  refine of_eq (lkc_C30 k (leN e 4096 : Nat) 0 _) ⟨fun _ => ?_, fun h => (by cases h)⟩
  have hleft : leftI k = ((leN e 4096 : Nat) : Int) := by
    rw [hk.eq, left_KV hk.sm R, leN_cnt, show e = fun (p : Nat) => inX R (p : Int) from funext ge]
  have hf := kleft_fun false k (by omega) kv
  rw [toKs_A, hleft]
  rw [hleft] at hf
  have hfin : (((leN e 4096 : Nat) : Int) == ((leN e 4096 : Nat) : Int)) = true := beq_self_eq_true _
  rw [hfin]
  exact ⟨hf, trivial, post_tmp rfl (sm_same rfl)⟩
theorem lkc_law {x0 x1 : AV} (h0 : Typed C.tt 6 5 x0) (h1 : Typed C.tt 6 22 x1) : Fun C P F_lkc [x0, x1] [] (.sb true) [] := by
  obtain ⟨s, rfl, hs⟩ := typed_u8 rfl h0
  obtain ⟨ids, ex, hi, _, s1⟩ := typed_ids h1
  exact (lkc_fun s hs ex ids hi).sim ⟨sm_same rfl, s1, trivial⟩ trivial
end Go.Bu.W

