/- SessionApart. -/
import Derived.Test.YtaabgmjgldinpaaK16
namespace Go.Bu.W
def toPa : AV → LR
  | .st [a, b] => (toLS a, asI b)
  | _ => ([], 0)
abbrev lrAt (l : List LR) (i : Nat) : LR := l.getD i ([], 0)
abbrev dLr (ex : Bool) (l : List LR) : AV := .dat l.length ex 2 (fun i => lrA (lrAt l i))
def w_ssa : Way := wayK [0, 1, 3, 4, 5, 6, 7, 8, 9, 10, 11, 15, 34, 54, 63, 65, 92] 94 [5,8,10]
def S_a5 (l : List Ses) (x : Tri) : St := { tm := [(3, .ptr 3 []), (5, .sb true), (6, dSe false l)], hp := [(3, .c (triA x))], seen := [3] }
def S_a8 (l : List Ses) (x : Tri) (who z : Int) (a b : LR) : St := { tm := [(3, .ptr 3 []), (5, .sb true), (6, dSe false l), (7, .i who), (8, .sl 8 [] 0 2 2 true 2), (9, .i z)], hp := [(3, .c (triA x)), (8, .c (.st [lrA a, lrA b]))], seen := [3, 8] }
def S_a10 (l : List Ses) (x : Tri) (who : Int) (d : List LR) : St := { tm := [(3, .ptr 3 []), (5, .sb true), (6, dSe false l), (7, .i who), (8, dLr false d)], hp := [(3, .c (triA x))], seen := [3] }
def I_a0 (l : List Ses) (x : Tri) (who : Int) (d : List LR) (i : Nat) : St := { tm := [(3, .ptr 3 []), (5, .sb true), (6, dSe false l), (7, .i who), (8, dLr false d), (10, i64 i)], hp := [(3, .c (triA x))], seen := [3] }
def I_a1 (l : List Ses) (x : Tri) (who : Int) (d : List LR) (i j : Nat) : St := { tm := [(3, .ptr 3 []), (5, .sb true), (6, dSe false l), (7, .i who), (8, dLr false d), (10, i64 i), (11, i64 j)], hp := [(3, .c (triA x))], seen := [3] }

theorem ssa_A (ex : Bool) (l : List Tri) (x : Tri) (K : Nat) (Φ : Ex → St → Prop) :
  (Holds C P 94 [] K Φ (vc C w_ssa b_ssa [] (start [dTri ex l, triA x] []) lf)) =
  (Fun W.C W.P 10 [] [] (AV.sb true) [] ∧
 (True ∧
 (((decide ((((List.length l) : Nat) : Int) > (20 : Int))) = true →
 (Φ Ex.ret (St.mk [(0, (W.dTri ex l)), (1, (W.triA x)), (3, (AV.ptr 3 [])), (4, (AV.sb true)), (5, (AV.sb true)), (15, (AV.v (Value.bool true)))] [(3, (Blk.c (W.triA x)))] [3]))) ∧
 ((decide ((((List.length l) : Nat) : Int) > (20 : Int))) = false →
 (Fun W.C W.P 15 [(W.dTri ex l)] [] (W.dSe false (W.madeS (W.toL W.toTri (W.dTri ex l)))) [] ∧
  (∃ (S2 : St), Ent W.C 94 ([] : List Deferred) K (St.mk [(0, (W.dTri ex l)), (1, (W.triA x)), (3, (AV.ptr 3 [])), (4, (AV.v (Value.bool false))), (5, (AV.sb true)), (6, (W.dSe false (W.madeS (W.toL W.toTri (W.dTri ex l))))), (15, (AV.v (Value.bool false)))] [(3, (Blk.c (W.triA x)))] [3]) S2 ∧ Holds W.C W.P 94 ([] : List Deferred) K Φ (cutAt W.C w_ssa b_ssa [1, 1, 1, 1, 0] S2 (after W.C w_ssa b_ssa [1, 1, 1, 1, 0] [] lf)))))))) := by kernel_rfl
theorem ssa_C5 (l : List Ses) (x : Tri) (K : Nat) (Φ : Ex → St → Prop) :
  (Holds C P 94 [] K Φ (cutAt C w_ssa b_ssa [1, 1, 1, 1, 0] (S_a5 l x) (after C w_ssa b_ssa [1, 1, 1, 1, 0] [] lf))) =
  ((((0 : Int) ≤ (0 : Int)) ∧ ((0 : Int) < (3 : Int))) ∧
 (((12 : Int) ≠ (0 : Int)) ∧
 ((I64 ((((W.tri x 0) % 12) : Nat) : Int)) ∧
 (Fun W.C W.P 11 [(W.dSe false l), (AV.i ((((W.tri x 0) % 12) : Nat) : Int))] [] (W.ltA (W.begL (W.toLS (W.dSe false l)) ((((W.tri x 0) % 12) : Nat) : Int)) (W.begE (W.toLS (W.dSe false l)) ((((W.tri x 0) % 12) : Nat) : Int))) [] ∧
 (Fun W.C W.P 23 [(W.dSe false l), (AV.i ((((W.tri x 0) % 12) : Nat) : Int))] [] (W.ltA (W.endL (W.toLS (W.dSe false l)) ((((W.tri x 0) % 12) : Nat) : Int)) (W.endE (W.toLS (W.dSe false l)) ((((W.tri x 0) % 12) : Nat) : Int))) [] ∧
 (Fun W.C W.P 18 [(W.dSe false l), (AV.i ((((W.tri x 0) % 12) : Nat) : Int))] [] (AV.i (W.rfI (W.toLS (W.dSe false l)) ((((W.tri x 0) % 12) : Nat) : Int))) [] ∧
 (True ∧
 (∃ (S2 : St), Ent W.C 94 ([] : List Deferred) K (St.mk [(3, (AV.ptr 3 [])), (5, (AV.sb true)), (6, (W.dSe false l)), (7, (AV.i ((((W.tri x 0) % 12) : Nat) : Int))), (8, (AV.sl 29 [] 0 2 2 true 2)), (9, (AV.i (W.rfI (W.toLS (W.dSe false l)) ((((W.tri x 0) % 12) : Nat) : Int))))] [(3, (Blk.c (W.triA x))), (29, (Blk.c (AV.st [(W.ltA (W.begL (W.toLS (W.dSe false l)) ((((W.tri x 0) % 12) : Nat) : Int)) (W.begE (W.toLS (W.dSe false l)) ((((W.tri x 0) % 12) : Nat) : Int))), (W.ltA (W.endL (W.toLS (W.dSe false l)) ((((W.tri x 0) % 12) : Nat) : Int)) (W.endE (W.toLS (W.dSe false l)) ((((W.tri x 0) % 12) : Nat) : Int)))])))] [29, 3]) S2 ∧ Holds W.C W.P 94 ([] : List Deferred) K Φ (cutAt W.C w_ssa b_ssa [1, 1, 1, 1, 1, 1, 1, 0, 0] S2 (after W.C w_ssa b_ssa [1, 1, 1, 1, 1, 1, 1, 0, 0] [] lf)))))))))) := by kernel_rfl
theorem ssa_C8 (l : List Ses) (x : Tri) (who z : Int) (a b : LR) (K : Nat) (Φ : Ex → St → Prop) :
  (Holds C P 94 [] K Φ (cutAt C w_ssa b_ssa [1, 1, 1, 1, 1, 1, 1, 0, 0] (S_a8 l x who z a b) (after C w_ssa b_ssa [1, 1, 1, 1, 1, 1, 1, 0, 0] [] lf))) =
  (((decide (z ≥ (0 : Int))) = true →
 ((((0 : Int) ≤ z) ∧ (z < (((List.length l) : Nat) : Int))) ∧
  ((I64 ((W.Ses.seq (W.seAt l (Int.toNat z))) + (1 : Int))) ∧
  ((((0 : Int) ≤ (1 : Int)) ∧ ((1 : Int) < (3 : Int))) ∧
  ((I64 (((W.tri x 1) : Nat) : Int)) ∧
  (Fun W.C W.P 14 [(W.dSe false l), (AV.i who), (AV.i ((W.Ses.seq (W.seAt l (Int.toNat z))) + (1 : Int))), (W.rpN (((W.tri x 1) : Nat) : Int))] [] (W.ltA (W.doneL (W.toLS (W.dSe false l)) who ((W.Ses.seq (W.seAt l (Int.toNat z))) + (1 : Int)) (W.nrep (((W.tri x 1) : Nat) : Int))) (W.doneE (W.toLS (W.dSe false l)) who ((W.Ses.seq (W.seAt l (Int.toNat z))) + (1 : Int)))) [] ∧
  ((2 = 2) ∧
  (((2 = 0) ∨ (0 < 1)) ∧
  ((96 ≤ 140737488355328) ∧
  (∃ (S2 : St), Ent W.C 94 ([] : List Deferred) K (St.mk [(3, (AV.ptr 3 [])), (5, (AV.sb true)), (6, (W.dSe false l)), (7, (AV.i who)), (8, (AV.sl 50 [] 0 3 3 false 2)), (9, (AV.i z)), (34, (AV.v (Value.bool true)))] [(3, (Blk.c (W.triA x))), (8, (Blk.c (AV.st [(W.ltA (Prod.fst a) (Prod.snd a)), (W.ltA (Prod.fst b) (Prod.snd b))]))), (49, (Blk.c (AV.st [(W.ltA (W.doneL (W.toLS (W.dSe false l)) who ((W.Ses.seq (W.seAt l (Int.toNat z))) + (1 : Int)) (W.nrep (((W.tri x 1) : Nat) : Int))) (W.doneE (W.toLS (W.dSe false l)) who ((W.Ses.seq (W.seAt l (Int.toNat z))) + (1 : Int))))]))), (50, (Blk.c (AV.arr 3 2 (cat 2 (fun (i : Nat) => (nthD [(W.ltA (Prod.fst a) (Prod.snd a)), (W.ltA (Prod.fst b) (Prod.snd b))] (0 + i) (AV.v (Value.tuple (List.toArray []))))) (fun (i : Nat) => (nthD [(W.ltA (W.doneL (W.toLS (W.dSe false l)) who ((W.Ses.seq (W.seAt l (Int.toNat z))) + (1 : Int)) (W.nrep (((W.tri x 1) : Nat) : Int))) (W.doneE (W.toLS (W.dSe false l)) who ((W.Ses.seq (W.seAt l (Int.toNat z))) + (1 : Int))))] (0 + i) (AV.v (Value.tuple (List.toArray [])))))))))] [50, 49, 3, 8]) S2 ∧ Holds W.C W.P 94 ([] : List Deferred) K Φ (cutAt W.C w_ssa b_ssa [1, 1, 1, 1, 1, 1, 1, 1, 0, 0] S2 (after W.C w_ssa b_ssa [1, 1, 1, 1, 1, 1, 1, 1, 0, 0] [] lf)))))))))))) ∧
 ((decide (z ≥ (0 : Int))) = false →
 (∃ (S2 : St), Ent W.C 94 ([] : List Deferred) K (St.mk [(3, (AV.ptr 3 [])), (5, (AV.sb true)), (6, (W.dSe false l)), (7, (AV.i who)), (8, (AV.sl 8 [] 0 2 2 true 2)), (9, (AV.i z)), (34, (AV.v (Value.bool false)))] [(3, (Blk.c (W.triA x))), (8, (Blk.c (AV.st [(W.ltA (Prod.fst a) (Prod.snd a)), (W.ltA (Prod.fst b) (Prod.snd b))])))] [3, 8]) S2 ∧ Holds W.C W.P 94 ([] : List Deferred) K Φ (cutAt W.C w_ssa b_ssa [1, 1, 1, 1, 1, 1, 1, 1, 0, 0] S2 (after W.C w_ssa b_ssa [1, 1, 1, 1, 1, 1, 1, 1, 0, 0] [] lf))))) := by kernel_rfl
theorem ssa_C8k (l : List Ses) (x : Tri) (who : Int) (k : Nat) (a b : LR) (K : Nat) (Φ : Ex → St → Prop) :
  (Holds C P 94 [] K Φ (cutAt C w_ssa b_ssa [1, 1, 1, 1, 1, 1, 1, 0, 0] (S_a8 l x who k a b) (after C w_ssa b_ssa [1, 1, 1, 1, 1, 1, 1, 0, 0] [] lf))) =
  (((decide (((k : Nat) : Int) ≥ (0 : Int))) = true →
 ((((0 : Int) ≤ ((k : Nat) : Int)) ∧ (((k : Nat) : Int) < (((List.length l) : Nat) : Int))) ∧
  ((I64 ((W.Ses.seq (W.seAt l k)) + (1 : Int))) ∧
  ((((0 : Int) ≤ (1 : Int)) ∧ ((1 : Int) < (3 : Int))) ∧
  ((I64 (((W.tri x 1) : Nat) : Int)) ∧
  (Fun W.C W.P 14 [(W.dSe false l), (AV.i who), (AV.i ((W.Ses.seq (W.seAt l k)) + (1 : Int))), (W.rpN (((W.tri x 1) : Nat) : Int))] [] (W.ltA (W.doneL (W.toLS (W.dSe false l)) who ((W.Ses.seq (W.seAt l k)) + (1 : Int)) (W.nrep (((W.tri x 1) : Nat) : Int))) (W.doneE (W.toLS (W.dSe false l)) who ((W.Ses.seq (W.seAt l k)) + (1 : Int)))) [] ∧
  ((2 = 2) ∧
  (((2 = 0) ∨ (0 < 1)) ∧
  ((96 ≤ 140737488355328) ∧
  (∃ (S2 : St), Ent W.C 94 ([] : List Deferred) K (St.mk [(3, (AV.ptr 3 [])), (5, (AV.sb true)), (6, (W.dSe false l)), (7, (AV.i who)), (8, (AV.sl 50 [] 0 3 3 false 2)), (9, (AV.i ((k : Nat) : Int))), (34, (AV.v (Value.bool true)))] [(3, (Blk.c (W.triA x))), (8, (Blk.c (AV.st [(W.ltA (Prod.fst a) (Prod.snd a)), (W.ltA (Prod.fst b) (Prod.snd b))]))), (49, (Blk.c (AV.st [(W.ltA (W.doneL (W.toLS (W.dSe false l)) who ((W.Ses.seq (W.seAt l k)) + (1 : Int)) (W.nrep (((W.tri x 1) : Nat) : Int))) (W.doneE (W.toLS (W.dSe false l)) who ((W.Ses.seq (W.seAt l k)) + (1 : Int))))]))), (50, (Blk.c (AV.arr 3 2 (cat 2 (fun (i : Nat) => (nthD [(W.ltA (Prod.fst a) (Prod.snd a)), (W.ltA (Prod.fst b) (Prod.snd b))] (0 + i) (AV.v (Value.tuple (List.toArray []))))) (fun (i : Nat) => (nthD [(W.ltA (W.doneL (W.toLS (W.dSe false l)) who ((W.Ses.seq (W.seAt l k)) + (1 : Int)) (W.nrep (((W.tri x 1) : Nat) : Int))) (W.doneE (W.toLS (W.dSe false l)) who ((W.Ses.seq (W.seAt l k)) + (1 : Int))))] (0 + i) (AV.v (Value.tuple (List.toArray [])))))))))] [50, 49, 3, 8]) S2 ∧ Holds W.C W.P 94 ([] : List Deferred) K Φ (cutAt W.C w_ssa b_ssa [1, 1, 1, 1, 1, 1, 1, 1, 0, 0] S2 (after W.C w_ssa b_ssa [1, 1, 1, 1, 1, 1, 1, 1, 0, 0] [] lf)))))))))))) ∧
 ((decide (((k : Nat) : Int) ≥ (0 : Int))) = false →
 (∃ (S2 : St), Ent W.C 94 ([] : List Deferred) K (St.mk [(3, (AV.ptr 3 [])), (5, (AV.sb true)), (6, (W.dSe false l)), (7, (AV.i who)), (8, (AV.sl 8 [] 0 2 2 true 2)), (9, (AV.i ((k : Nat) : Int))), (34, (AV.v (Value.bool false)))] [(3, (Blk.c (W.triA x))), (8, (Blk.c (AV.st [(W.ltA (Prod.fst a) (Prod.snd a)), (W.ltA (Prod.fst b) (Prod.snd b))])))] [3, 8]) S2 ∧ Holds W.C W.P 94 ([] : List Deferred) K Φ (cutAt W.C w_ssa b_ssa [1, 1, 1, 1, 1, 1, 1, 1, 0, 0] S2 (after W.C w_ssa b_ssa [1, 1, 1, 1, 1, 1, 1, 1, 0, 0] [] lf))))) := by kernel_rfl
theorem ssa_C10 (l : List Ses) (x : Tri) (who : Int) (d : List LR) (K : Nat) (Φ : Ex → St → Prop) :
  (Holds C P 94 [] K Φ (cutAt C w_ssa b_ssa [1, 1, 1, 1, 1, 1, 1, 1, 0, 0] (S_a10 l x who d) (after C w_ssa b_ssa [1, 1, 1, 1, 1, 1, 1, 1, 0, 0] [] lf))) =
  (LoopOK W.C W.P 94 ([] : List Deferred) K (bodyAt b_ssa [1, 1, 1, 1, 1, 1, 1, 1, 0, 1, 0]) (St.mk [(3, (AV.ptr 3 [])), (5, (AV.sb true)), (6, (W.dSe false l)), (7, (AV.i who)), (8, (AV.dat (List.length d) false 2 (fun (i : Nat) => (W.ltA (Prod.fst (W.lrAt d i)) (Prod.snd (W.lrAt d i)))))), (10, (AV.i (0 : Int)))] [(3, (Blk.c (W.triA x)))] [3]) (fun (e : Ex) (S' : St) => Holds W.C W.P 94 ([] : List Deferred) K Φ (after W.C w_ssa b_ssa [1, 1, 1, 1, 1, 1, 1, 1, 0, 1, 0] [] lf e S'))) := by kernel_rfl
noncomputable abbrev bd_ssa_0 : Code := bodyAt (b_ssa) [1, 1, 1, 1, 1, 1, 1, 1, 0, 1, 0]
theorem ok_ssa_0 : codeOK bd_ssa_0 = true := by kernel_rfl
noncomputable abbrev rest_ssa_0 (K : Nat) (Φ : Ex → St → Prop) : Ex → St → Prop := fun e S' => Holds C P 94 [] K Φ (after C w_ssa (b_ssa) [1, 1, 1, 1, 1, 1, 1, 1, 0, 1, 0] [] lf e S')
theorem ssa_L0 (l : List Ses) (x : Tri) (who : Int) (d : List LR) (i : Nat) (K : Nat) (Φ : Ex → St → Prop) :
  (Holds C P 94 [] K (RoundQ C 94 [] K (I_a0 l x who d) (fun i => i ≤ d.length) (fun i => d.length - i) ((fun i => d.length - i) (i)) (rest_ssa_0 K Φ)) (vc C w_ssa bd_ssa_0 [] ((I_a0 l x who d) (i)) lf)) =
  (((decide (((i : Nat) : Int) < (((List.length d) : Nat) : Int))) = true →
 ((((0 : Int) ≤ ((i : Nat) : Int)) ∧ (((i : Nat) : Int) < (((List.length d) : Nat) : Int))) ∧
  (Fun W.C W.P 12 [(W.dSe false (Prod.fst (W.lrAt d i)))] [] (AV.sb (W.vB (W.toLS (W.dSe false (Prod.fst (W.lrAt d i)))))) [] ∧
  (True ∧
  (((! (W.vB (W.toLS (W.dSe false (Prod.fst (W.lrAt d i)))))) = true →
  (Φ Ex.ret (St.mk [(3, (AV.ptr 3 [])), (4, (AV.v (Value.bool false))), (5, (AV.sb true)), (6, (W.dSe false l)), (7, (AV.i who)), (8, (AV.dat (List.length d) false 2 (fun (i1 : Nat) => (W.ltA (Prod.fst (W.lrAt d i1)) (Prod.snd (W.lrAt d i1)))))), (10, (AV.i ((i : Nat) : Int))), (54, (AV.v (Value.bool true))), (63, (AV.v (Value.bool true)))] [(3, (Blk.c (W.triA x)))] [3]))) ∧
  ((! (W.vB (W.toLS (W.dSe false (Prod.fst (W.lrAt d i)))))) = false →
  (LoopOK W.C W.P 94 ([] : List Deferred) K (bodyAt bd_ssa_0 [1, 0, 0, 1, 1, 0]) (St.mk [(3, (AV.ptr 3 [])), (5, (AV.sb true)), (6, (W.dSe false l)), (7, (AV.i who)), (8, (AV.dat (List.length d) false 2 (fun (i1 : Nat) => (W.ltA (Prod.fst (W.lrAt d i1)) (Prod.snd (W.lrAt d i1)))))), (10, (AV.i ((i : Nat) : Int))), (11, (AV.i (0 : Int))), (54, (AV.v (Value.bool true))), (63, (AV.v (Value.bool false)))] [(3, (Blk.c (W.triA x)))] [3]) (fun (e : Ex) (S' : St) => Holds W.C W.P 94 ([] : List Deferred) K (RoundQ C 94 [] K (I_a0 l x who d) (fun i => i ≤ d.length) (fun i => d.length - i) ((fun i => d.length - i) (i)) (rest_ssa_0 K Φ)) (after W.C w_ssa bd_ssa_0 [1, 0, 0, 1, 1, 0] [] lf e S'))))))))) ∧
 ((decide (((i : Nat) : Int) < (((List.length d) : Nat) : Int))) = false →
 (Φ Ex.ret (St.mk [(3, (AV.ptr 3 [])), (4, (AV.sb true)), (5, (AV.sb true)), (6, (W.dSe false l)), (7, (AV.i who)), (8, (AV.dat (List.length d) false 2 (fun (i1 : Nat) => (W.ltA (Prod.fst (W.lrAt d i1)) (Prod.snd (W.lrAt d i1)))))), (10, (AV.i ((i : Nat) : Int))), (54, (AV.v (Value.bool false)))] [(3, (Blk.c (W.triA x)))] [3])))) := by kernel_rfl
noncomputable abbrev bd_ssa_1 : Code := bodyAt (bd_ssa_0) [1, 0, 0, 1, 1, 0]
theorem ok_ssa_1 : codeOK bd_ssa_1 = true := by kernel_rfl
noncomputable abbrev rest_ssa_1 (K : Nat) (Φ : Ex → St → Prop) : Ex → St → Prop := fun e S' => Holds C P 94 [] K Φ (after C w_ssa (bd_ssa_0) [1, 0, 0, 1, 1, 0] [] lf e S')
theorem ssa_L1 (l : List Ses) (x : Tri) (who : Int) (d : List LR) (i j : Nat) (K : Nat) (Φ : Ex → St → Prop) :
  (Holds C P 94 [] K (RoundQ C 94 [] K (I_a1 l x who d i) (fun j => j ≤ 12) (fun j => 12 - j) ((fun j => 12 - j) (j)) (rest_ssa_1 K Φ)) (vc C w_ssa bd_ssa_1 [] ((I_a1 l x who d i) (j)) lf)) =
  (((decide (((j : Nat) : Int) < (12 : Int))) = true →
 (((((j : Nat) : Int) != who) = true →
  ((((0 : Int) ≤ ((i : Nat) : Int)) ∧ (((i : Nat) : Int) < (((List.length d) : Nat) : Int))) ∧
   ((((0 : Int) ≤ (2 : Int)) ∧ ((2 : Int) < (3 : Int))) ∧
   (((6 : Int) ≠ (0 : Int)) ∧
   ((I64 ((((W.tri x 2) % 6) : Nat) : Int)) ∧
   (Fun W.C W.P 13 [(W.dSe false (Prod.fst (W.lrAt d i))), (AV.i ((j : Nat) : Int)), (AV.i ((((W.tri x 2) % 6) : Nat) : Int))] [] (W.lkA (W.seenR (W.toLS (W.dSe false (Prod.fst (W.lrAt d i)))) ((j : Nat) : Int) ((((W.tri x 2) % 6) : Nat) : Int)) (W.seenB (W.toLS (W.dSe false (Prod.fst (W.lrAt d i)))) ((j : Nat) : Int) ((((W.tri x 2) % 6) : Nat) : Int)) (W.seenE (W.toLS (W.dSe false (Prod.fst (W.lrAt d i)))) ((j : Nat) : Int) ((((W.tri x 2) % 6) : Nat) : Int))) [] ∧
   ((((0 : Int) ≤ (2 : Int)) ∧ ((2 : Int) < (3 : Int))) ∧
   (((6 : Int) ≠ (0 : Int)) ∧
   ((I64 ((((W.tri x 2) % 6) : Nat) : Int)) ∧
   (Fun W.C W.P 13 [(W.dSe false l), (AV.i ((j : Nat) : Int)), (AV.i ((((W.tri x 2) % 6) : Nat) : Int))] [] (W.lkA (W.seenR (W.toLS (W.dSe false l)) ((j : Nat) : Int) ((((W.tri x 2) % 6) : Nat) : Int)) (W.seenB (W.toLS (W.dSe false l)) ((j : Nat) : Int) ((((W.tri x 2) % 6) : Nat) : Int)) (W.seenE (W.toLS (W.dSe false l)) ((j : Nat) : Int) ((((W.tri x 2) % 6) : Nat) : Int))) [] ∧
   (Fun W.C W.P 16 [(W.lkA (W.seenR (W.toLS (W.dSe false (Prod.fst (W.lrAt d i)))) ((j : Nat) : Int) ((((W.tri x 2) % 6) : Nat) : Int)) (W.seenB (W.toLS (W.dSe false (Prod.fst (W.lrAt d i)))) ((j : Nat) : Int) ((((W.tri x 2) % 6) : Nat) : Int)) (W.seenE (W.toLS (W.dSe false (Prod.fst (W.lrAt d i)))) ((j : Nat) : Int) ((((W.tri x 2) % 6) : Nat) : Int))), (W.lkA (W.seenR (W.toLS (W.dSe false l)) ((j : Nat) : Int) ((((W.tri x 2) % 6) : Nat) : Int)) (W.seenB (W.toLS (W.dSe false l)) ((j : Nat) : Int) ((((W.tri x 2) % 6) : Nat) : Int)) (W.seenE (W.toLS (W.dSe false l)) ((j : Nat) : Int) ((((W.tri x 2) % 6) : Nat) : Int)))] [] (AV.sb (W.eqLk ((W.toRp (W.rpA (W.seenR (W.toLS (W.dSe false (Prod.fst (W.lrAt d i)))) ((j : Nat) : Int) ((((W.tri x 2) % 6) : Nat) : Int)))), ((asB (AV.sb (W.seenB (W.toLS (W.dSe false (Prod.fst (W.lrAt d i)))) ((j : Nat) : Int) ((((W.tri x 2) % 6) : Nat) : Int)))), (W.seenE (W.toLS (W.dSe false (Prod.fst (W.lrAt d i)))) ((j : Nat) : Int) ((((W.tri x 2) % 6) : Nat) : Int)))) ((W.toRp (W.rpA (W.seenR (W.toLS (W.dSe false l)) ((j : Nat) : Int) ((((W.tri x 2) % 6) : Nat) : Int)))), ((asB (AV.sb (W.seenB (W.toLS (W.dSe false l)) ((j : Nat) : Int) ((((W.tri x 2) % 6) : Nat) : Int)))), (W.seenE (W.toLS (W.dSe false l)) ((j : Nat) : Int) ((((W.tri x 2) % 6) : Nat) : Int)))))) [] ∧
   (True ∧
   (((! (W.eqLk ((W.toRp (W.rpA (W.seenR (W.toLS (W.dSe false (Prod.fst (W.lrAt d i)))) ((j : Nat) : Int) ((((W.tri x 2) % 6) : Nat) : Int)))), ((asB (AV.sb (W.seenB (W.toLS (W.dSe false (Prod.fst (W.lrAt d i)))) ((j : Nat) : Int) ((((W.tri x 2) % 6) : Nat) : Int)))), (W.seenE (W.toLS (W.dSe false (Prod.fst (W.lrAt d i)))) ((j : Nat) : Int) ((((W.tri x 2) % 6) : Nat) : Int)))) ((W.toRp (W.rpA (W.seenR (W.toLS (W.dSe false l)) ((j : Nat) : Int) ((((W.tri x 2) % 6) : Nat) : Int)))), ((asB (AV.sb (W.seenB (W.toLS (W.dSe false l)) ((j : Nat) : Int) ((((W.tri x 2) % 6) : Nat) : Int)))), (W.seenE (W.toLS (W.dSe false l)) ((j : Nat) : Int) ((((W.tri x 2) % 6) : Nat) : Int)))))) = true →
   (Φ Ex.ret (St.mk [(3, (AV.ptr 3 [])), (4, (AV.v (Value.bool false))), (5, (AV.sb true)), (6, (W.dSe false l)), (7, (AV.i who)), (8, (AV.dat (List.length d) false 2 (fun (i1 : Nat) => (W.ltA (Prod.fst (W.lrAt d i1)) (Prod.snd (W.lrAt d i1)))))), (10, (AV.i ((i : Nat) : Int))), (11, (AV.i ((j : Nat) : Int))), (65, (AV.v (Value.bool true))), (92, (AV.v (Value.bool true)))] [(3, (Blk.c (W.triA x)))] [3]))) ∧
   ((! (W.eqLk ((W.toRp (W.rpA (W.seenR (W.toLS (W.dSe false (Prod.fst (W.lrAt d i)))) ((j : Nat) : Int) ((((W.tri x 2) % 6) : Nat) : Int)))), ((asB (AV.sb (W.seenB (W.toLS (W.dSe false (Prod.fst (W.lrAt d i)))) ((j : Nat) : Int) ((((W.tri x 2) % 6) : Nat) : Int)))), (W.seenE (W.toLS (W.dSe false (Prod.fst (W.lrAt d i)))) ((j : Nat) : Int) ((((W.tri x 2) % 6) : Nat) : Int)))) ((W.toRp (W.rpA (W.seenR (W.toLS (W.dSe false l)) ((j : Nat) : Int) ((((W.tri x 2) % 6) : Nat) : Int)))), ((asB (AV.sb (W.seenB (W.toLS (W.dSe false l)) ((j : Nat) : Int) ((((W.tri x 2) % 6) : Nat) : Int)))), (W.seenE (W.toLS (W.dSe false l)) ((j : Nat) : Int) ((((W.tri x 2) % 6) : Nat) : Int)))))) = false →
   ((I64 (((j + 1) : Nat) : Int)) ∧
    ((RoundQ C 94 [] K (I_a1 l x who d i) (fun j => j ≤ 12) (fun j => 12 - j) ((fun j => 12 - j) (j)) (rest_ssa_1 K Φ)) Ex.normal (St.mk [(3, (AV.ptr 3 [])), (5, (AV.sb true)), (6, (W.dSe false l)), (7, (AV.i who)), (8, (AV.dat (List.length d) false 2 (fun (i1 : Nat) => (W.ltA (Prod.fst (W.lrAt d i1)) (Prod.snd (W.lrAt d i1)))))), (10, (AV.i ((i : Nat) : Int))), (11, (AV.i (((j + 1) : Nat) : Int))), (65, (AV.v (Value.bool true))), (92, (AV.v (Value.bool false)))] [(3, (Blk.c (W.triA x)))] [3]))))))))))))))))) ∧
  ((((j : Nat) : Int) != who) = false →
  ((I64 (((j + 1) : Nat) : Int)) ∧
   ((RoundQ C 94 [] K (I_a1 l x who d i) (fun j => j ≤ 12) (fun j => 12 - j) ((fun j => 12 - j) (j)) (rest_ssa_1 K Φ)) Ex.normal (St.mk [(3, (AV.ptr 3 [])), (5, (AV.sb true)), (6, (W.dSe false l)), (7, (AV.i who)), (8, (AV.dat (List.length d) false 2 (fun (i1 : Nat) => (W.ltA (Prod.fst (W.lrAt d i1)) (Prod.snd (W.lrAt d i1)))))), (10, (AV.i ((i : Nat) : Int))), (11, (AV.i (((j + 1) : Nat) : Int))), (65, (AV.v (Value.bool true))), (92, (AV.v (Value.bool false)))] [(3, (Blk.c (W.triA x)))] [3])))))) ∧
 ((decide (((j : Nat) : Int) < (12 : Int))) = false →
 ((I64 (((i + 1) : Nat) : Int)) ∧
  (Φ Ex.normal (St.mk [(3, (AV.ptr 3 [])), (5, (AV.sb true)), (6, (W.dSe false l)), (7, (AV.i who)), (8, (AV.dat (List.length d) false 2 (fun (i1 : Nat) => (W.ltA (Prod.fst (W.lrAt d i1)) (Prod.snd (W.lrAt d i1)))))), (10, (AV.i (((i + 1) : Nat) : Int))), (11, (AV.i ((j : Nat) : Int))), (65, (AV.v (Value.bool false)))] [(3, (Blk.c (W.triA x)))] [3]))))) := by kernel_rfl
theorem ssa_10 {l : List Ses} (hv : VS l) (x : Tri) {who : Int} {d : List LR} (hd : ∀ p, p ∈ d → Aprt l who p) (h3 : d.length ≤ 3) : Holds C P 94 [] 0 (FunPost C 94 0 [.tmp 4] (.sb true) []) (cutAt C w_ssa b_ssa [1, 1, 1, 1, 1, 1, 1, 1, 0, 0] (S_a10 l x who d) (after C w_ssa b_ssa [1, 1, 1, 1, 1, 1, 1, 1, 0, 0] [] lf)) := by
  refine of_eq (ssa_C10 l x who d 0 _) ?_
  refine loop_inv (W := w_ssa) ctx mixed ok_ssa_0 (I_a0 l x who d) (fun i => i ≤ d.length) (fun i => d.length - i) 0 (Nat.zero_le _) (ent_of [(3, 3)] rfl (tm_cons rfl (sm_ptr rfl) (tm_cons rfl (sm_same rfl) (tm_cons rfl (sm_same rfl) (tm_cons rfl (sm_same rfl) (tm_cons rfl (sm_same rfl) (tm_cons rfl (sm_same rfl) tm_nil)))))) (hp_cons rfl rfl (sm_same rfl) hp_nil)) fun i hi => ?_
  refine of_eq (ssa_L0 l x who d i 0 _) ?_
  simp only [toSeL]
  refine ⟨fun h1 => ?_, fun _ => post_tmp rfl (sm_sb rfl)⟩
  have h1 := of_decide_eq_true h1
  have hlt : i < d.length := by omega
  obtain ⟨p, hp⟩ : ∃ p, p = lrAt d i := ⟨_, rfl⟩
  have hpd : p ∈ d := by rw [hp, show lrAt d i = d[i] from by simp [List.getD_eq_getElem?_getD, List.getElem?_eq_getElem hlt]]; exact List.getElem_mem hlt
  obtain ⟨hvp, hap⟩ := hd p hpd
  rw [← hp, hvp.vB]
  refine ⟨(by first | omega | decide | (unfold I64; omega)), vld hvp, trivial, fun h => (nt_no rfl h).elim, fun _ => ?_⟩
  refine loop_inv (W := w_ssa) ctx mixed ok_ssa_1 (I_a1 l x who d i) (fun j => j ≤ 12) (fun j => 12 - j) 0 (Nat.zero_le _) (ent_of [(3, 3)] rfl (tm_cons rfl (sm_ptr rfl) (tm_cons rfl (sm_same rfl) (tm_cons rfl (sm_same rfl) (tm_cons rfl (sm_same rfl) (tm_cons rfl (sm_same rfl) (tm_cons rfl (sm_same rfl) (tm_cons rfl (sm_same rfl) tm_nil))))))) (hp_cons rfl rfl (sm_same rfl) hp_nil)) fun j hj => ?_
  refine of_eq (ssa_L1 l x who d i j 0 _) ?_
  have a1 : ∀ b, asB (AV.sb b) = b := fun _ => rfl
  simp only [toSeL, toRp_A, a1]
  rw [← hp]
  refine ⟨fun g1 => ⟨fun g2 => ?_, fun _ => ⟨(by first | omega | decide | (unfold I64; omega)), round_end (j + 1) (by have := of_decide_eq_true g1; omega) (ent_of [(3, 3)] rfl (tm_cons rfl (sm_ptr rfl) (tm_cons rfl (sm_same rfl) (tm_cons rfl (sm_same rfl) (tm_cons rfl (sm_same rfl) (tm_cons rfl (sm_same rfl) (tm_cons rfl (sm_same rfl) (tm_cons rfl (sm_same rfl) tm_nil))))))) (hp_cons rfl rfl (sm_same rfl) hp_nil)) (by have := of_decide_eq_true g1; omega)⟩⟩, fun _ => ⟨(by first | omega | decide | (unfold I64; omega)), round_end (i + 1) (by omega) (ent_of [(3, 3)] rfl (tm_cons rfl (sm_ptr rfl) (tm_cons rfl (sm_same rfl) (tm_cons rfl (sm_same rfl) (tm_cons rfl (sm_same rfl) (tm_cons rfl (sm_same rfl) (tm_cons rfl (sm_same rfl) tm_nil)))))) (hp_cons rfl rfl (sm_same rfl) hp_nil)) (by omega)⟩⟩
  have g1 := of_decide_eq_true g1
  have hne : ((j : Nat) : Int) ≠ who := by simpa using g2
  obtain ⟨q, hq⟩ : ∃ q : Int, q = ((tri x 2 % 6 : Nat) : Int) := ⟨_, rfl⟩
  obtain ⟨e1, e2, e3⟩ := seen_same (hap _ hne) q
  have qk := eqLk_r (seenR l j q, seenB l j q, seenE l j q)
  have hI : I64 ((tri x 2 % 6 : Nat) : Int) := (by first | omega | decide | (unfold I64; omega))
  rw [← hq] at hI ⊢
  rw [e1, e2, e3, qk]
  exact ⟨(by first | omega | decide | (unfold I64; omega)), (by first | omega | decide | (unfold I64; omega)), (by first | omega | decide | (unfold I64; omega)), hI, seen_is hvp e1 e2 e3, (by first | omega | decide | (unfold I64; omega)), (by first | omega | decide | (unfold I64; omega)), hI, seen_fun false hv j q, sameL_is (seenR_ok hv _ _) qk, trivial, fun h => (nt_no rfl h).elim, fun _ => ⟨(by first | omega | decide | (unfold I64; omega)), round_end (j + 1) (by omega) (ent_of [(3, 3)] rfl (tm_cons rfl (sm_ptr rfl) (tm_cons rfl (sm_same rfl) (tm_cons rfl (sm_same rfl) (tm_cons rfl (sm_same rfl) (tm_cons rfl (sm_same rfl) (tm_cons rfl (sm_same rfl) (tm_cons rfl (sm_same rfl) tm_nil))))))) (hp_cons rfl rfl (sm_same rfl) hp_nil)) (by omega)⟩⟩
theorem sm_lr2 {m : Nat → Option Nat} {a b : LR} {f : Nat → AV} {ex : Bool} (h0 : f 0 = lrA a) (h1 : f 1 = lrA b) : simR m (.dat 2 ex 2 f) (dLr false [a, b]) :=
  sm_datr rfl (by simp) fun k hk => by
    match k, hk with
    | 0, _ => exact .inl h0
    | 1, _ => exact .inl h1
theorem sm_lr3 {m : Nat → Option Nat} {a b c : LR} {f : Nat → AV} {ex : Bool} (h0 : f 0 = lrA a) (h1 : f 1 = lrA b) (h2 : f 2 = lrA c) : simR m (.dat 3 ex 2 f) (dLr false [a, b, c]) :=
  sm_datr rfl (by simp) fun k hk => by
    match k, hk with
    | 0, _ => exact .inl h0
    | 1, _ => exact .inl h1
    | 2, _ => exact .inl h2
theorem ssa_fun (ex : Bool) (l : List Tri) (hl : ∀ x, x ∈ l → Tri8 x) (x : Tri) (hx : Tri8 x) : Fun C P F_ssa [dTri ex l, triA x] [] (.sb true) [] := by
  refine in_ssa (W := w_ssa) rfl 0 (by simp) rfl (fun id h => absurd rfl h) ?_
  refine of_eq (ssa_A ex l x 0 _) ?_
  rw [toTris_A]
  refine ⟨sanity_fun, trivial, fun _ => post_tmp rfl (sm_sb rfl), fun h20 => ⟨made_fun ex l hl (by have := of_decide_eq_false h20; omega), ?_⟩⟩
  have hv := vs_made l
  generalize madeS l = l at hv
  refine ⟨S_a5 l x, ent_of [(3, 3)] rfl (tm_cons rfl (sm_ptr rfl) (tm_cons rfl (sm_same rfl) (tm_cons rfl (sm_same rfl) tm_nil))) (hp_cons rfl rfl (sm_same rfl) hp_nil), ?_⟩
  refine of_eq (ssa_C5 l x 0 _) ?_
  simp only [toSeL]
  have t0 : tri x 0 = x.1 := rfl
  rw [t0]
  have hI : I64 ((x.1 % 12 : Nat) : Int) := (by first | omega | decide | (unfold I64; omega))
  obtain ⟨who, hwho⟩ : ∃ w : Int, w = ((x.1 % 12 : Nat) : Int) := ⟨_, rfl⟩
  rw [← hwho] at hI ⊢
  have p1 := aprt_beg hv who
  have p2 := aprt_end hv who
  have c1 := begin_fun false hv who
  have c2 := endS_fun false hv who
  refine ⟨(by first | omega | decide | (unfold I64; omega)), (by first | omega | decide | (unfold I64; omega)), hI, c1, c2, rfind_fun false hv who, trivial, ?_⟩
  obtain ⟨a, ha⟩ : ∃ a : LR, a = (begL l who, begE l who) := ⟨_, rfl⟩
  obtain ⟨b, hb⟩ : ∃ a : LR, a = (endL l who, endE l who) := ⟨_, rfl⟩
  refine ⟨S_a8 l x who (rfI l who) a b, ent_of [(3, 3), (29, 8)] rfl (tm_cons rfl (sm_ptr rfl) (tm_cons rfl (sm_same rfl) (tm_cons rfl (sm_same rfl) (tm_cons rfl (sm_same rfl) (tm_cons rfl (sm_sl rfl rfl (Nat.le_refl _) (Nat.le_refl _) (by simp)) (tm_cons rfl (sm_same rfl) tm_nil)))))) (hp_cons rfl rfl (sm_same rfl) (hp_cons rfl rfl (sm_eq rfl (by rw [ha, hb])) hp_nil)), ?_⟩
  rw [← ha] at p1
  rw [← hb] at p2
  rcases (hv.rf who).symm with ⟨hh, hr⟩ | ⟨hh, hr, hp, hw⟩
  · rw [hr]
    refine of_eq (ssa_C8 l x who (-1) a b 0 _) ?_
    refine ⟨fun h => ?_, fun _ => ⟨S_a10 l x who [a, b], (ent_freeze _ [8]).trans (ent_of [(3, 3)] rfl (tm_cons rfl (sm_ptr rfl) (tm_cons rfl (sm_same rfl) (tm_cons rfl (sm_same rfl) (tm_cons rfl (sm_same rfl) (tm_cons rfl (sm_lr2 rfl rfl) tm_nil))))) (hp_cons rfl rfl (sm_same rfl) hp_nil)), ssa_10 hv x (fun p hp => ?_) (by simp)⟩⟩
    · have := of_decide_eq_true h; omega
    · rcases List.mem_cons.1 hp with rfl | hp
      · exact p1
      · rcases List.mem_cons.1 hp with rfl | hp
        · exact p2
        · cases hp
  · rw [hr]
    refine of_eq (ssa_C8k l x who (posS l who) a b 0 _) ?_
    simp only [toSeL]
    have hq := hv.at hp
    have t1 : tri x 1 = x.2.1 := rfl
    rw [t1]
    refine ⟨fun _ => ⟨(by first | omega | decide | (unfold I64; omega)), (by first | omega | decide | (unfold I64; omega)), (by first | omega | decide | (unfold I64; omega)), ?_, (done_fun false hv _ _ (nrep _)).sim ⟨sm_same rfl, sm_same rfl, sm_same rfl, .inr (sm_rpN _), trivial⟩ trivial, (by trivial), (by simp), (by decide), S_a10 l x who [a, b, (doneL l who ((seAt l (posS l who)).seq + 1) (nrep (x.2.1 : Nat)), doneE l who ((seAt l (posS l who)).seq + 1))], (ent_freeze _ [50]).trans (ent_of [(3, 3)] rfl (tm_cons rfl (sm_ptr rfl) (tm_cons rfl (sm_same rfl) (tm_cons rfl (sm_same rfl) (tm_cons rfl (sm_same rfl) (tm_cons rfl (sm_lr3 rfl rfl rfl) tm_nil))))) (hp_cons rfl rfl (sm_same rfl) hp_nil)), ssa_10 hv x (fun p hp => ?_) (by simp)⟩, fun h => ?_⟩
    · have := hx.2.1; exact (by first | omega | decide | (unfold I64; omega))
    · rcases List.mem_cons.1 hp with rfl | hp
      · exact p1
      · rcases List.mem_cons.1 hp with rfl | hp
        · exact p2
        · rcases List.mem_cons.1 hp with rfl | hp
          · exact aprt_done hv who _ (nrep_ok _)
          · cases hp
    · have := of_decide_eq_false h; omega
theorem ssa_law {x0 x1 : AV} (h0 : Typed C.tt 6 45 x0) (h1 : Typed C.tt 6 51 x1) : Fun C P F_ssa [x0, x1] [] (.sb true) [] := by
  obtain ⟨l, ex, hl, h8, s0⟩ := typed_tris h0
  obtain ⟨x, hx, s1⟩ := typed_tri' h1
  exact (ssa_fun ex l h8 x hx).sim ⟨s0, s1, trivial⟩ trivial
end Go.Bu.W

