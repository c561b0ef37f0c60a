/- It does not matter in which order keys are destroyed, nor how often. -/
import Derived.Test.YtelpjhdglgledaaDoorK20
namespace Go.Bu.W
open Sp
def w_lko : Way := wayU [0, 1, 2, 6, 7, 8, 9, 10, 11, 12, 16, 27, 59, 63, 76] 83 [7,14,19]
def S_lko7 (ex : Bool) (ids : List Nat) (n : Nat) (a b : List Cv) : St := { tm := [(1, u16A ex ids), (2, u8 n), (7, .sb true), (9, .ptr 9 []), (10, .ptr 10 [])], hp := [(9, .c (ksA false a)), (10, .c (ksA false b))], seen := [9, 10] }
def I_lko (ex : Bool) (ids : List Nat) (n : Nat) (a b : Nat → List Cv) (i : Nat) : St := { tm := [(1, u16A ex ids), (2, u8 n), (7, .sb true), (9, .ptr 9 []), (10, .ptr 10 []), (11, .i i)], hp := [(9, .c (ksA false (a i))), (10, .c (ksA false (b i)))], seen := [9, 10] }
def S_lkoq (ex : Bool) (ids : List Nat) (a b : List Cv) : St := { tm := [(1, u16A ex ids), (7, .sb true), (9, .ptr 9 []), (10, .ptr 10 [])], hp := [(9, .c (ksA false a)), (10, .c (ksA false b))], seen := [9, 10] }
def I_lkq (ex : Bool) (ids : List Nat) (a b : List Cv) (i : Nat) : St := { tm := [(1, u16A ex ids), (7, .sb true), (9, .ptr 9 []), (10, .ptr 10 []), (12, .i i)], hp := [(9, .c (ksA false a)), (10, .c (ksA false b))], seen := [9, 10] }

theorem lko_A (s : Nat) (ex : Bool) (ids : List Nat) (n : Nat) {D : Dom} (K : Nat) (Φ : Ex → St → Prop) :
  (Holds C P 83 D K Φ (vc C w_lko b_lko [] (start [u8 s, u16A ex ids, u8 n] []) lf)) =
  (Fun W.C W.P 11 [] [] (AV.sb true) [] ∧
 (True ∧
 (((decide ((((List.length ids) : Nat) : Int) > (8 : Int))) = true →
 (Φ Ex.ret (St.mk [(0, (AV.v (Value.int IntKind.u8 ((s : Nat) : Int)))), (1, (W.u16A ex ids)), (2, (AV.v (Value.int IntKind.u8 ((n : Nat) : Int)))), (6, (AV.sb true)), (7, (AV.sb true)), (16, (AV.v (Value.bool true)))] [] []))) ∧
 ((decide ((((List.length ids) : Nat) : Int) > (8 : Int))) = false →
 (Fun W.C W.P 18 [(AV.dat 1 false 1 (fun (i : Nat) => (nthD [(AV.v (Value.int IntKind.u8 ((s : Nat) : Int)))] (0 + i) (AV.v (Value.tuple (List.toArray []))))))] [] (W.kyA (Sp.sumN [s])) [] ∧
  ((∀ (i : Nat), ((i < 32) → True)) ∧
  (Fun W.C W.P 17 [(W.kyA (Sp.sumN [s]))] [] (W.ksA false (W.newL (Sp.sumN [s]))) [] ∧
  ((((true = true) ∧ (true = true)) ∧ True) ∧
  ((((true = true) ∧ (true = true)) ∧ True) ∧
  ((((true = true) ∧ (true = true)) ∧ True) ∧
  (∃ (S2 : St), Ent W.C 83 D K (St.mk [(0, (AV.v (Value.int IntKind.u8 ((s : Nat) : Int)))), (1, (W.u16A ex ids)), (2, (AV.v (Value.int IntKind.u8 ((n : Nat) : Int)))), (6, (AV.v (Value.bool false))), (7, (AV.sb true)), (8, (AV.ptr 8 [])), (9, (AV.ptr 9 [])), (10, (AV.ptr 10 [])), (16, (AV.v (Value.bool false)))] [(8, (Blk.c (W.ksA false (W.newL (Sp.sumN [s]))))), (9, (Blk.c (W.ksA false (W.newL (Sp.sumN [s]))))), (10, (Blk.c (W.ksA false (W.newL (Sp.sumN [s]))))), (19, (Blk.c (AV.st [(AV.v (Value.int IntKind.u8 ((s : Nat) : Int)))])))] [10, 9, 8, 19]) S2 ∧ Holds W.C W.P 83 D K Φ (cutAt W.C w_lko b_lko [1, 1, 1, 1, 1, 1, 0, 0] S2 (after W.C w_lko b_lko [1, 1, 1, 1, 1, 1, 0, 0] [] lf))))))))))))) := by kernel_rfl
theorem lko_C7 (ex : Bool) (ids : List Nat) (n : Nat) (a b : List Cv) {D : Dom} (K : Nat) (Φ : Ex → St → Prop) :
  (Holds C P 83 D K Φ (cutAt C w_lko b_lko [1, 1, 1, 1, 1, 1, 0, 0] (S_lko7 ex ids n a b) (after C w_lko b_lko [1, 1, 1, 1, 1, 1, 0, 0] [] lf))) =
  (LoopOK W.C W.P 83 D K (bodyAt b_lko [1, 1, 1, 1, 1, 1, 0, 1, 0]) (St.mk [(1, (W.u16A ex ids)), (2, (AV.v (Value.int IntKind.u8 ((n : Nat) : Int)))), (7, (AV.sb true)), (9, (AV.ptr 9 [])), (10, (AV.ptr 10 [])), (11, (AV.i (0 : Int)))] [(9, (Blk.c (W.ksA false a))), (10, (Blk.c (W.ksA false b)))] [9, 10]) (fun (e : Ex) (S' : St) => Holds W.C W.P 83 D K Φ (after W.C w_lko b_lko [1, 1, 1, 1, 1, 1, 0, 1, 0] [] lf e S'))) := by kernel_rfl
noncomputable abbrev bd_lko_0 : Code := bodyAt (b_lko) [1, 1, 1, 1, 1, 1, 0, 1, 0]
theorem ok_lko_0 : codeOK bd_lko_0 = true := by kernel_rfl
noncomputable abbrev rest_lko_0 (D : Dom) (K : Nat) (Φ : Ex → St → Prop) : Ex → St → Prop := fun e S' => Holds C P 83 D K Φ (after C w_lko (b_lko) [1, 1, 1, 1, 1, 1, 0, 1, 0] [] lf e S')
set_option maxRecDepth 1000000 in
theorem lko_L0 (ex : Bool) (ids : List Nat) (n : Nat) (a b : Nat → List Cv) (i : Nat) {D : Dom} (K : Nat) (Φ : Ex → St → Prop) :
  (Holds C P 83 D K (RoundQ C 83 D K (I_lko ex ids n a b) (fun i => i ≤ ids.length) (fun i => ids.length - i) ((fun i => ids.length - i) (i)) (rest_lko_0 D K Φ)) (vc C w_lko bd_lko_0 [] ((I_lko ex ids n a b) (i)) lf)) =
  (((decide (((i : Nat) : Int) < (((List.length ids) : Nat) : Int))) = true →
 ((((0 : Int) ≤ ((i : Nat) : Int)) ∧ (((i : Nat) : Int) < (((List.length ids) : Nat) : Int))) ∧
  ((I64 (((List.getD ids i 0) : Nat) : Int)) ∧
  (((4096 : Int) ≠ (0 : Int)) ∧
  (Fun W.C W.P 13 [(W.ksA false (a i)), (AV.i (Int.tmod (((List.getD ids i 0) : Nat) : Int) (4096 : Int)))] [] (W.ksA false (W.desL (W.toKs (W.ksA false (a i))) (Int.tmod (((List.getD ids i 0) : Nat) : Int) (4096 : Int)))) [] ∧
  ((((true = true) ∧ (true = true)) ∧ True) ∧
  ((I64 ((n : Nat) : Int)) ∧
  ((I64 (((i + n) : Nat) : Int)) ∧
  (((((List.length ids) : Nat) : Int) ≠ (0 : Int)) ∧
  ((((0 : Int) ≤ ((((i + n) % (List.length ids)) : Nat) : Int)) ∧ (((((i + n) % (List.length ids)) : Nat) : Int) < (((List.length ids) : Nat) : Int))) ∧
  ((I64 (((List.getD ids ((i + n) % (List.length ids)) 0) : Nat) : Int)) ∧
  (((4096 : Int) ≠ (0 : Int)) ∧
  (Fun W.C W.P 13 [(W.ksA false (b i)), (AV.i (Int.tmod (((List.getD ids ((i + n) % (List.length ids)) 0) : Nat) : Int) (4096 : Int)))] [] (W.ksA false (W.desL (W.toKs (W.ksA false (b i))) (Int.tmod (((List.getD ids ((i + n) % (List.length ids)) 0) : Nat) : Int) (4096 : Int)))) [] ∧
  ((((true = true) ∧ (true = true)) ∧ True) ∧
  (Fun W.C W.P 14 [(W.ksA false (W.desL (W.toKs (W.ksA false (a i))) (Int.tmod (((List.getD ids i 0) : Nat) : Int) (4096 : Int))))] [] (AV.sb (W.validB (W.toKs (W.ksA false (W.desL (W.toKs (W.ksA false (a i))) (Int.tmod (((List.getD ids i 0) : Nat) : Int) (4096 : Int))))))) [] ∧
  (True ∧
  (((! (W.validB (W.toKs (W.ksA false (W.desL (W.toKs (W.ksA false (a i))) (Int.tmod (((List.getD ids i 0) : Nat) : Int) (4096 : Int))))))) = true →
  (Φ Ex.ret (St.mk [(1, (W.u16A ex ids)), (2, (AV.v (Value.int IntKind.u8 ((n : Nat) : Int)))), (6, (AV.v (Value.bool false))), (7, (AV.sb true)), (9, (AV.ptr 9 [])), (10, (AV.ptr 10 [])), (11, (AV.i ((i : Nat) : Int))), (27, (AV.v (Value.bool true))), (59, (AV.v (Value.bool true)))] [(9, (Blk.c (W.ksA false (W.desL (W.toKs (W.ksA false (a i))) (Int.tmod (((List.getD ids i 0) : Nat) : Int) (4096 : Int)))))), (10, (Blk.c (W.ksA false (W.desL (W.toKs (W.ksA false (b i))) (Int.tmod (((List.getD ids ((i + n) % (List.length ids)) 0) : Nat) : Int) (4096 : Int))))))] [9, 10]))) ∧
  ((! (W.validB (W.toKs (W.ksA false (W.desL (W.toKs (W.ksA false (a i))) (Int.tmod (((List.getD ids i 0) : Nat) : Int) (4096 : Int))))))) = false →
  (Fun W.C W.P 14 [(W.ksA false (W.desL (W.toKs (W.ksA false (b i))) (Int.tmod (((List.getD ids ((i + n) % (List.length ids)) 0) : Nat) : Int) (4096 : Int))))] [] (AV.sb (W.validB (W.toKs (W.ksA false (W.desL (W.toKs (W.ksA false (b i))) (Int.tmod (((List.getD ids ((i + n) % (List.length ids)) 0) : Nat) : Int) (4096 : Int))))))) [] ∧
   (True ∧
   (((! (W.validB (W.toKs (W.ksA false (W.desL (W.toKs (W.ksA false (b i))) (Int.tmod (((List.getD ids ((i + n) % (List.length ids)) 0) : Nat) : Int) (4096 : Int))))))) = true →
   (Φ Ex.ret (St.mk [(1, (W.u16A ex ids)), (2, (AV.v (Value.int IntKind.u8 ((n : Nat) : Int)))), (6, (AV.v (Value.bool false))), (7, (AV.sb true)), (9, (AV.ptr 9 [])), (10, (AV.ptr 10 [])), (11, (AV.i ((i : Nat) : Int))), (27, (AV.v (Value.bool true))), (59, (AV.v (Value.bool true)))] [(9, (Blk.c (W.ksA false (W.desL (W.toKs (W.ksA false (a i))) (Int.tmod (((List.getD ids i 0) : Nat) : Int) (4096 : Int)))))), (10, (Blk.c (W.ksA false (W.desL (W.toKs (W.ksA false (b i))) (Int.tmod (((List.getD ids ((i + n) % (List.length ids)) 0) : Nat) : Int) (4096 : Int))))))] [9, 10]))) ∧
   ((! (W.validB (W.toKs (W.ksA false (W.desL (W.toKs (W.ksA false (b i))) (Int.tmod (((List.getD ids ((i + n) % (List.length ids)) 0) : Nat) : Int) (4096 : Int))))))) = false →
   ((I64 (((i + 1) : Nat) : Int)) ∧
    ((RoundQ C 83 D K (I_lko ex ids n a b) (fun i => i ≤ ids.length) (fun i => ids.length - i) ((fun i => ids.length - i) (i)) (rest_lko_0 D K Φ)) Ex.normal (St.mk [(1, (W.u16A ex ids)), (2, (AV.v (Value.int IntKind.u8 ((n : Nat) : Int)))), (7, (AV.sb true)), (9, (AV.ptr 9 [])), (10, (AV.ptr 10 [])), (11, (AV.i (((i + 1) : Nat) : Int))), (27, (AV.v (Value.bool true))), (59, (AV.v (Value.bool false)))] [(9, (Blk.c (W.ksA false (W.desL (W.toKs (W.ksA false (a i))) (Int.tmod (((List.getD ids i 0) : Nat) : Int) (4096 : Int)))))), (10, (Blk.c (W.ksA false (W.desL (W.toKs (W.ksA false (b i))) (Int.tmod (((List.getD ids ((i + n) % (List.length ids)) 0) : Nat) : Int) (4096 : Int))))))] [9, 10]))))))))))))))))))))))))) ∧
 ((decide (((i : Nat) : Int) < (((List.length ids) : Nat) : Int))) = false →
 (∃ (S2 : St), Ent W.C 83 D K (St.mk [(1, (W.u16A ex ids)), (2, (AV.v (Value.int IntKind.u8 ((n : Nat) : Int)))), (7, (AV.sb true)), (9, (AV.ptr 9 [])), (10, (AV.ptr 10 [])), (11, (AV.i ((i : Nat) : Int))), (27, (AV.v (Value.bool false)))] [(9, (Blk.c (W.ksA false (a i)))), (10, (Blk.c (W.ksA false (b i))))] [9, 10]) S2 ∧ Holds W.C W.P 83 D K Φ (cutAt W.C w_lko b_lko [1, 1, 1, 1, 1, 1, 1, 0, 0] S2 (after W.C w_lko b_lko [1, 1, 1, 1, 1, 1, 1, 0, 0] [] lf))))) := by kernel_rfl
theorem lko_C14 (ex : Bool) (ids : List Nat) (a b : List Cv) {D : Dom} (K : Nat) (Φ : Ex → St → Prop) :
  (Holds C P 83 D K Φ (cutAt C w_lko b_lko [1, 1, 1, 1, 1, 1, 1, 0, 0] (S_lkoq ex ids a b) (after C w_lko b_lko [1, 1, 1, 1, 1, 1, 1, 0, 0] [] lf))) =
  (LoopOK W.C W.P 83 D K (bodyAt b_lko [1, 1, 1, 1, 1, 1, 1, 0, 1, 0]) (St.mk [(1, (W.u16A ex ids)), (7, (AV.sb true)), (9, (AV.ptr 9 [])), (10, (AV.ptr 10 [])), (12, (AV.i (0 : Int)))] [(9, (Blk.c (W.ksA false a))), (10, (Blk.c (W.ksA false b)))] [9, 10]) (fun (e : Ex) (S' : St) => Holds W.C W.P 83 D K Φ (after W.C w_lko b_lko [1, 1, 1, 1, 1, 1, 1, 0, 1, 0] [] lf e S'))) := by kernel_rfl
noncomputable abbrev bd_lko_1 : Code := bodyAt (b_lko) [1, 1, 1, 1, 1, 1, 1, 0, 1, 0]
theorem ok_lko_1 : codeOK bd_lko_1 = true := by kernel_rfl
noncomputable abbrev rest_lko_1 (D : Dom) (K : Nat) (Φ : Ex → St → Prop) : Ex → St → Prop := fun e S' => Holds C P 83 D K Φ (after C w_lko (b_lko) [1, 1, 1, 1, 1, 1, 1, 0, 1, 0] [] lf e S')
set_option maxRecDepth 1000000 in
theorem lko_L1 (ex : Bool) (ids : List Nat) (a b : List Cv) (i : Nat) {D : Dom} (K : Nat) (Φ : Ex → St → Prop) :
  (Holds C P 83 D K (RoundQ C 83 D K (I_lkq ex ids a b) (fun i => i ≤ ids.length) (fun i => ids.length - i) ((fun i => ids.length - i) (i)) (rest_lko_1 D K Φ)) (vc C w_lko bd_lko_1 [] ((I_lkq ex ids a b) (i)) lf)) =
  (((decide (((i : Nat) : Int) < (((List.length ids) : Nat) : Int))) = true →
 ((((0 : Int) ≤ ((i : Nat) : Int)) ∧ (((i : Nat) : Int) < (((List.length ids) : Nat) : Int))) ∧
  ((I64 (((List.getD ids i 0) : Nat) : Int)) ∧
  (((4096 : Int) ≠ (0 : Int)) ∧
  (Fun W.C W.P 13 [(W.ksA false a), (AV.i (Int.tmod (((List.getD ids i 0) : Nat) : Int) (4096 : Int)))] [] (W.ksA false (W.desL (W.toKs (W.ksA false a)) (Int.tmod (((List.getD ids i 0) : Nat) : Int) (4096 : Int)))) [] ∧
  (Fun W.C W.P 19 [(W.ksA false (W.desL (W.toKs (W.ksA false a)) (Int.tmod (((List.getD ids i 0) : Nat) : Int) (4096 : Int)))), (W.ksA false a)] [] (AV.sb (W.sameL (W.toKs (W.ksA false (W.desL (W.toKs (W.ksA false a)) (Int.tmod (((List.getD ids i 0) : Nat) : Int) (4096 : Int))))) (W.toKs (W.ksA false a)))) [] ∧
  (True ∧
  (((! (W.sameL (W.toKs (W.ksA false (W.desL (W.toKs (W.ksA false a)) (Int.tmod (((List.getD ids i 0) : Nat) : Int) (4096 : Int))))) (W.toKs (W.ksA false a)))) = true →
  (Φ Ex.ret (St.mk [(1, (W.u16A ex ids)), (6, (AV.v (Value.bool false))), (7, (AV.sb true)), (9, (AV.ptr 9 [])), (10, (AV.ptr 10 [])), (12, (AV.i ((i : Nat) : Int))), (63, (AV.v (Value.bool true))), (76, (AV.v (Value.bool true)))] [(9, (Blk.c (W.ksA false a))), (10, (Blk.c (W.ksA false b)))] [9, 10]))) ∧
  ((! (W.sameL (W.toKs (W.ksA false (W.desL (W.toKs (W.ksA false a)) (Int.tmod (((List.getD ids i 0) : Nat) : Int) (4096 : Int))))) (W.toKs (W.ksA false a)))) = false →
  ((I64 (((i + 1) : Nat) : Int)) ∧
   ((RoundQ C 83 D K (I_lkq ex ids a b) (fun i => i ≤ ids.length) (fun i => ids.length - i) ((fun i => ids.length - i) (i)) (rest_lko_1 D K Φ)) Ex.normal (St.mk [(1, (W.u16A ex ids)), (7, (AV.sb true)), (9, (AV.ptr 9 [])), (10, (AV.ptr 10 [])), (12, (AV.i (((i + 1) : Nat) : Int))), (63, (AV.v (Value.bool true))), (76, (AV.v (Value.bool false)))] [(9, (Blk.c (W.ksA false a))), (10, (Blk.c (W.ksA false b)))] [9, 10])))))))))))) ∧
 ((decide (((i : Nat) : Int) < (((List.length ids) : Nat) : Int))) = false →
 (∃ (S2 : St), Ent W.C 83 D K (St.mk [(1, (W.u16A ex ids)), (7, (AV.sb true)), (9, (AV.ptr 9 [])), (10, (AV.ptr 10 [])), (12, (AV.i ((i : Nat) : Int))), (63, (AV.v (Value.bool false)))] [(9, (Blk.c (W.ksA false a))), (10, (Blk.c (W.ksA false b)))] [9, 10]) S2 ∧ Holds W.C W.P 83 D K Φ (cutAt W.C w_lko b_lko [1, 1, 1, 1, 1, 1, 1, 1, 0] S2 (after W.C w_lko b_lko [1, 1, 1, 1, 1, 1, 1, 1, 0] [] lf))))) := by kernel_rfl
theorem lko_C19 (ex : Bool) (ids : List Nat) (a b : List Cv) {D : Dom} (K : Nat) (Φ : Ex → St → Prop) :
  (Holds C P 83 D K Φ (cutAt C w_lko b_lko [1, 1, 1, 1, 1, 1, 1, 1, 0] (S_lkoq ex ids a b) (after C w_lko b_lko [1, 1, 1, 1, 1, 1, 1, 1, 0] [] lf))) =
  ((true = true →
 (Fun W.C W.P 19 [(W.ksA false a), (W.ksA false b)] [] (AV.sb (W.sameL (W.toKs (W.ksA false a)) (W.toKs (W.ksA false b)))) [] ∧
  (True ∧
  (Φ Ex.ret (St.mk [(1, (W.u16A ex ids)), (6, (AV.sb (W.sameL (W.toKs (W.ksA false a)) (W.toKs (W.ksA false b))))), (7, (AV.sb true)), (9, (AV.ptr 9 [])), (10, (AV.ptr 10 []))] [(9, (Blk.c (W.ksA false a))), (10, (Blk.c (W.ksA false b)))] [9, 10]))))) ∧
 (true = false →
 (Φ Ex.ret (St.mk [(1, (W.u16A ex ids)), (6, (AV.v (Value.bool false))), (7, (AV.sb true)), (9, (AV.ptr 9 [])), (10, (AV.ptr 10 []))] [(9, (Blk.c (W.ksA false a))), (10, (Blk.c (W.ksA false b)))] [9, 10])))) := by kernel_rfl

/-- What is destroyed in the order g, after i steps. -/
def ordD (g : Nat → Nat) : Nat → List Int
  | 0 => []
  | i + 1 => ((g i % 4096 : Nat) : Int) :: ordD g i
theorem mem_ordD {g : Nat → Nat} {x : Int} : ∀ {i : Nat}, x ∈ ordD g i ↔ ∃ k, k < i ∧ x = ((g k % 4096 : Nat) : Int)
  | 0 => ⟨fun h => (by cases h), fun ⟨k, h, _⟩ => absurd h (Nat.not_lt_zero k)⟩
  | i + 1 => by
    show x ∈ _ :: ordD g i ↔ _
    rw [List.mem_cons, mem_ordD]
    constructor
    · rintro (h | ⟨k, hk, h⟩)
      · exact ⟨i, by omega, h⟩
      · exact ⟨k, by omega, h⟩
    · rintro ⟨k, hk, h⟩
      by_cases hki : k = i
      · subst hki; exact .inl h
      · exact .inr ⟨k, by omega, h⟩
theorem rot_onto {m n k : Nat} (hk : k < m) : ∃ i, i < m ∧ (i + n) % m = k := by
  have hm : 0 < m := by omega
  have h1 := Nat.mod_lt n hm
  have h2 := Nat.div_add_mod n m
  refine ⟨(k + (m - n % m)) % m, Nat.mod_lt _ hm, ?_⟩
  rw [Nat.mod_add_mod, show k + (m - n % m) + n = k + m * (n / m + 1) by rw [Nat.mul_add, Nat.mul_one]; omega, Nat.add_mul_mod_self_left, Nat.mod_eq_of_lt hk]
theorem KOK.start (s : Nat) : KOK (seedK s) [] (newL (sumN [s])) := ⟨newL_KV _, seed_ok s⟩
set_option maxRecDepth 1000000 in
theorem lko_fun (s : Nat) (hs : s < 256) (ex : Bool) (ids : List Nat) (hi : ∀ i, i < ids.length → ids.getD i 0 < 65536) (n : Nat) (hn : n < 256) : Fun C P F_lko [u8 s, u16A ex ids, u8 n] [] (.sb true) [] := by
  refine in_lko (W := w_lko) rfl 0 (by simp) rfl (fun id h => absurd rfl h) fun D => ?_
  refine of_eq (lko_A s ex ids n 0 _) ?_
  have hb : B8 1 (fun (i : Nat) => (nthD [(AV.v (Value.int IntKind.u8 ((s : Nat) : Int)))] (0 + i) (AV.v (Value.tuple (List.toArray []))))) := fun i hi => by
    obtain rfl : i = 0 := by omega
    exact ⟨rfl, hs⟩
  refine ⟨sanity_fun, trivial, fun _ => post_tmp rfl (sm_same rfl), fun h8 => ?_⟩
  have h8 : ids.length ≤ 8 := by simp only [decide_eq_false_iff_not] at h8; omega
  obtain ⟨a, ea⟩ : ∃ a : Nat → List Cv, a = fun i => KV (seedK s) (ordD (fun i => ids.getD i 0) i) := ⟨_, rfl⟩
  obtain ⟨b, eb⟩ : ∃ b : Nat → List Cv, b = fun i => KV (seedK s) (ordD (fun i => ids.getD ((i + n) % ids.length) 0) i) := ⟨_, rfl⟩
  have ka : ∀ i, KOK (seedK s) (ordD (fun i => ids.getD i 0) i) (a i) := fun i => ⟨by rw [ea], seed_ok s⟩
  have kb : ∀ i, KOK (seedK s) (ordD (fun i => ids.getD ((i + n) % ids.length) 0) i) (b i) := fun i => ⟨by rw [eb], seed_ok s⟩
  have a0 : newL (sumN [s]) = a 0 := (KOK.start s).same (ka 0) fun id _ _ => Iff.rfl
  have b0 : newL (sumN [s]) = b 0 := (KOK.start s).same (kb 0) fun id _ _ => Iff.rfl
  clear ea eb
  refine ⟨rsum_call (ex := false) hb (.inr rfl) (by decide), fun _ _ => trivial, rnew_fun _, TT, TT, TT, cut_ok (S2 := S_lko7 ex ids n (a 0) (b 0)) ?_ ?_⟩
  · rw [← a0, ← b0]
    exact ent_of [(9, 9), (10, 10)] rfl (tm_cons rfl (sm_same rfl) (tm_cons rfl (sm_same rfl) (tm_cons rfl (sm_same rfl) (tm_cons rfl (sm_ptr rfl) (tm_cons rfl (sm_ptr rfl) tm_nil))))) (hp_cons rfl rfl (sm_same rfl) (hp_cons rfl rfl (sm_same rfl) hp_nil))
  refine of_eq (lko_C7 ex ids n (a 0) (b 0) 0 _) ?_
  refine loop_inv (W := w_lko) ctx mixed ok_lko_0 (I_lko ex ids n a b) (fun i => i ≤ ids.length) (fun i => ids.length - i) 0 (Nat.zero_le _) ?_ fun i hi' => ?_
  · exact ent_of [(9, 9), (10, 10)] rfl (tm_cons rfl (sm_same rfl) (tm_cons rfl (sm_same rfl) (tm_cons rfl (sm_same rfl) (tm_cons rfl (sm_ptr rfl) (tm_cons rfl (sm_ptr rfl) (tm_cons rfl (sm_same rfl) tm_nil)))))) (hp_cons rfl rfl (sm_same rfl) (hp_cons rfl rfl (sm_same rfl) hp_nil))
  refine of_eq (lko_L0 ex ids n a b i 0 _) ⟨fun h => ?_, fun h => ?_⟩
  · simp only [decide_eq_true_eq] at h
    have hlt : i < ids.length := by omega
    have hm : (i + n) % ids.length < ids.length := Nat.mod_lt _ (by omega)
    have hu := hi i hlt
    have hw := hi _ hm
    have da : desL (a i) ((ids.getD i 0 % 4096 : Nat) : Int) = a (i + 1) := ((ka i).des (inR_mod _)).same (ka (i + 1)) fun id _ _ => Iff.rfl
    have db : desL (b i) ((ids.getD ((i + n) % ids.length) 0 % 4096 : Nat) : Int) = b (i + 1) := ((kb i).des (inR_mod _)).same (kb (i + 1)) fun id _ _ => Iff.rfl
    rw [toKs_A, toKs_A, toKs_A, toKs_A, tmod4096, tmod4096]
    have fa := destroy_fun false (a i) ((ids.getD i 0 % 4096 : Nat) : Int) (ka i).n (ka i).v
    have fb := destroy_fun false (b i) ((ids.getD ((i + n) % ids.length) 0 % 4096 : Nat) : Int) (kb i).n (kb i).v
    rw [da] at fa
    rw [db] at fb
    rw [da, db]
    refine ⟨(by first | omega | decide | (unfold I64; omega)), (by first | omega | decide | (unfold I64; omega)), by decide, fa, TT, (by first | omega | decide | (unfold I64; omega)), (by first | omega | decide | (unfold I64; omega)), (by first | omega | decide | (unfold I64; omega)), ⟨by omega, by omega⟩, (by first | omega | decide | (unfold I64; omega)), by decide, fb, TT, rvalid_fun false _ (by have := (ka (i + 1)).n; omega), trivial, nf_then (ka (i + 1)).v.valid ⟨rvalid_fun false _ (by have := (kb (i + 1)).n; omega), trivial, nf_then (kb (i + 1)).v.valid ⟨(by first | omega | decide | (unfold I64; omega)), round_end (i + 1) (by omega) ?_ (by dsimp only; omega)⟩⟩⟩
    exact ent_of [(9, 9), (10, 10)] rfl (tm_cons rfl (sm_same rfl) (tm_cons rfl (sm_same rfl) (tm_cons rfl (sm_same rfl) (tm_cons rfl (sm_ptr rfl) (tm_cons rfl (sm_ptr rfl) (tm_cons rfl (sm_same rfl) tm_nil)))))) (hp_cons rfl rfl (sm_same rfl) (hp_cons rfl rfl (sm_same rfl) hp_nil))
  · simp only [decide_eq_false_iff_not] at h
    obtain rfl : i = ids.length := by omega
    have hsame : a ids.length = b ids.length := (ka _).same (kb _) fun id _ _ => by
      rw [mem_ordD, mem_ordD]
      constructor
      · rintro ⟨k, hk, e⟩
        obtain ⟨j, hj, e2⟩ := rot_onto (n := n) hk
        exact ⟨j, hj, by rw [e2]; exact e⟩
      · rintro ⟨k, hk, e⟩
        exact ⟨(k + n) % ids.length, Nat.mod_lt _ (by omega), e⟩
    obtain ⟨z, hz⟩ : ∃ z, z = b ids.length := ⟨_, rfl⟩
    have kz := ka ids.length
    rw [hsame, ← hz] at kz
    rw [hsame, ← hz]
    refine cut_ok (S2 := S_lkoq ex ids z z) (ent_of [(9, 9), (10, 10)] rfl (tm_cons rfl (sm_same rfl) (tm_cons rfl (sm_same rfl) (tm_cons rfl (sm_ptr rfl) (tm_cons rfl (sm_ptr rfl) tm_nil)))) (hp_cons rfl rfl (sm_same rfl) (hp_cons rfl rfl (sm_same rfl) hp_nil))) ?_
    refine of_eq (lko_C14 ex ids z z 0 _) ?_
    refine loop_inv (W := w_lko) ctx mixed ok_lko_1 (I_lkq ex ids z z) (fun i => i ≤ ids.length) (fun i => ids.length - i) 0 (Nat.zero_le _) ?_ fun i hi' => ?_
    · exact ent_of [(9, 9), (10, 10)] rfl (tm_cons rfl (sm_same rfl) (tm_cons rfl (sm_same rfl) (tm_cons rfl (sm_ptr rfl) (tm_cons rfl (sm_ptr rfl) (tm_cons rfl (sm_same rfl) tm_nil))))) (hp_cons rfl rfl (sm_same rfl) (hp_cons rfl rfl (sm_same rfl) hp_nil))
    refine of_eq (lko_L1 ex ids z z i 0 _) ⟨fun h => ?_, fun h => ?_⟩
    · simp only [decide_eq_true_eq] at h
      have hlt : i < ids.length := by omega
      have hu := hi i hlt
      have dz : desL z ((ids.getD i 0 % 4096 : Nat) : Int) = z := (kz.des (inR_mod _)).same kz fun id _ _ => by
        rw [List.mem_cons, mem_ordD]
        exact ⟨fun h => h.elim (fun h => ⟨i, hlt, h⟩) (fun h => h), .inr⟩
      have fz := destroy_fun false z ((ids.getD i 0 % 4096 : Nat) : Int) kz.n kz.v
      rw [dz] at fz
      rw [toKs_A, toKs_A, tmod4096, dz]
      exact ⟨(by first | omega | decide | (unfold I64; omega)), (by first | omega | decide | (unfold I64; omega)), by decide, fz, rsame_fun false z false z (by have := kz.n; omega), trivial, nf_then (sameL_refl z) ⟨(by first | omega | decide | (unfold I64; omega)), round_end (i + 1) (by omega) (ent_of [(9, 9), (10, 10)] rfl (tm_cons rfl (sm_same rfl) (tm_cons rfl (sm_same rfl) (tm_cons rfl (sm_ptr rfl) (tm_cons rfl (sm_ptr rfl) (tm_cons rfl (sm_same rfl) tm_nil))))) (hp_cons rfl rfl (sm_same rfl) (hp_cons rfl rfl (sm_same rfl) hp_nil))) (by dsimp only; omega)⟩⟩
    · refine cut_ok (S2 := S_lkoq ex ids z z) (ent_of [(9, 9), (10, 10)] rfl (tm_cons rfl (sm_same rfl) (tm_cons rfl (sm_same rfl) (tm_cons rfl (sm_ptr rfl) (tm_cons rfl (sm_ptr rfl) tm_nil)))) (hp_cons rfl rfl (sm_same rfl) (hp_cons rfl rfl (sm_same rfl) hp_nil))) ?_
      refine of_eq (lko_C19 ex ids z z 0 _) ⟨fun _ => ?_, fun h => (by cases h)⟩
      rw [toKs_A, sameL_refl]
      have hss := rsame_fun false z false z (by have := kz.n; omega)
      rw [sameL_refl] at hss
      exact ⟨hss, trivial, post_tmp rfl (sm_same rfl)⟩
theorem lko_law {x0 x1 x2 : AV} (h0 : Typed C.tt 6 5 x0) (h1 : Typed C.tt 6 22 x1) (h2 : Typed C.tt 6 5 x2) : Fun C P F_lko [x0, x1, x2] [] (.sb true) [] := by
  obtain ⟨s, rfl, hs⟩ := typed_u8 rfl h0
  obtain ⟨ids, ex, hi, _, s1⟩ := typed_ids h1
  obtain ⟨n, rfl, hn⟩ := typed_u8 rfl h2
  exact (lko_fun s hs ex ids hi n hn).sim ⟨sm_same rfl, s1, sm_same rfl, trivial⟩ trivial
end Go.Bu.W

