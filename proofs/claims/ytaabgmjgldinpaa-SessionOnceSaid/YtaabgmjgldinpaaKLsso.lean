/- SessionOnce. -/
import Derived.Test.YtaabgmjgldinpaaK16
namespace Go.Bu.W
abbrev iiR (f : Nat → Int) : AV := .arr 4 1 (fun j => .i (f j))
def upd (f : Nat → Int) (k : Nat) (v : Int) : Nat → Int := fun j => if j = k then v else f j
def QO0 (p : List Ses × Nat) : Prop := VS p.1 ∧ p.2 ≤ 4 ∧ p.1.length ≤ p.2 ∧ ∀ w : Nat, hasS p.1 w = decide (w < p.2) ∧ (w < p.2 → (atS p.1 w).seq = 0)
def QO1 (p : List Ses × (Nat → Int) × Nat) : Prop := VS p.1 ∧ p.2.2 ≤ 40 ∧ ∀ w : Nat, w < 4 → hasS p.1 w = true ∧ (atS p.1 w).seq = p.2.1 w
def w_sso : Way := wayK [0, 2, 3, 4, 5, 6, 7, 8, 9, 10, 11, 12, 17, 31, 41, 76, 83, 101] 110 [7,14,15,18,19,22]
def I_o0 (ex : Bool) (l : List (Nat × Nat)) (p : List Ses × Nat) : St := { tm := [(0, dTw ex l), (3, .sb true), (4, dSe false p.1), (5, .ptr 5 []), (6, i64 p.2)], hp := [(5, .c (iiR fun _ => 0))], seen := [5] }
def S_o7 (ex : Bool) (l : List (Nat × Nat)) (m : List Ses) (i : Nat) (o : LR) : St := { tm := [(0, dTw ex l), (3, .sb true), (4, dSe false m), (5, .ptr 5 []), (6, i64 i), (7, .ptr 7 [])], hp := [(5, .c (iiR fun _ => 0)), (7, .c (lrA o))], seen := [5, 7] }
def I_o2 (ex : Bool) (l : List (Nat × Nat)) (p : List Ses × (Nat → Int) × Nat) : St := { tm := [(0, dTw ex l), (3, .sb true), (4, dSe false p.1), (5, .ptr 5 []), (8, i64 p.2.2)], hp := [(5, .c (iiR p.2.1))], seen := [5] }
def S_o14 (ex : Bool) (l : List (Nat × Nat)) (m : List Ses) (f : Nat → Int) (i : Nat) (who : Nat) (seq : Int) : St := { tm := [(0, dTw ex l), (3, .sb true), (4, dSe false m), (5, .ptr 5 []), (8, i64 i), (9, i64 who), (10, .i seq)], hp := [(5, .c (iiR f))], seen := [5] }
def S_o15 (ex : Bool) (l : List (Nat × Nat)) (m : List Ses) (f : Nat → Int) (i : Nat) (who : Nat) (seq : Int) (r : Rp) (b : Bool) (e : Int) : St := { tm := [(0, dTw ex l), (3, .sb true), (4, dSe false m), (5, .ptr 5 []), (8, i64 i), (9, i64 who), (10, .i seq), (11, .ptr 11 [])], hp := [(5, .c (iiR f)), (11, .c (lkA r b e))], seen := [5, 11] }
def S_o19 (ex : Bool) (l : List (Nat × Nat)) (m : List Ses) (f : Nat → Int) (i : Nat) (who : Nat) (o : LR) : St := { tm := [(0, dTw ex l), (3, .sb true), (4, dSe false m), (5, .ptr 5 []), (8, i64 i), (9, i64 who), (12, .ptr 12 [])], hp := [(5, .c (iiR f)), (12, .c (lrA o))], seen := [5, 12] }
def S_o22 (ex : Bool) (l : List (Nat × Nat)) (m : List Ses) (f : Nat → Int) (i : Nat) (who : Nat) : St := { tm := [(0, dTw ex l), (3, .sb true), (4, dSe false m), (5, .ptr 5 []), (8, i64 i), (9, i64 who)], hp := [(5, .c (iiR f))], seen := [5] }

theorem sso_A (ex : Bool) (l : List (Nat × Nat)) (K : Nat) (Φ : Ex → St → Prop) :
  (Holds C P 110 [] K Φ (vc C w_sso b_sso [] (start [dTw ex l] []) lf)) =
  (Fun W.C W.P 10 [] [] (AV.sb true) [] ∧
 (True ∧
 (((4 = 4) ∧ ((1 = 1) ∧ (∀ (i : Nat), ((i < 4) → ((true = true) ∧ (true = true)))))) ∧
 (LoopOK W.C W.P 110 ([] : List Deferred) K (bodyAt b_sso [1, 1, 1, 0, 1, 0]) (St.mk [(0, (AV.dat (List.length l) ex 2 (fun (i : Nat) => (AV.arr 2 1 (fun (j : Nat) => (AV.v (Value.int IntKind.u8 (((W.tw (W.wAt l i) j) : Nat) : Int)))))))), (2, (AV.v (Value.bool false))), (3, (AV.sb true)), (4, (AV.sl 14 [] 0 0 0 true 14)), (5, (AV.ptr 5 [])), (6, (AV.i (0 : Int)))] [(5, (Blk.c (AV.arr 4 1 (fun (x : Nat) => (AV.i (0 : Int)))))), (14, (Blk.c (AV.st [])))] [5, 14]) (fun (e : Ex) (S' : St) => Holds W.C W.P 110 ([] : List Deferred) K Φ (after W.C w_sso b_sso [1, 1, 1, 0, 1, 0] [] lf e S')))))) := by kernel_rfl
noncomputable abbrev bd_sso_0 : Code := bodyAt (b_sso) [1, 1, 1, 0, 1, 0]
theorem ok_sso_0 : codeOK bd_sso_0 = true := by kernel_rfl
noncomputable abbrev rest_sso_0 (K : Nat) (Φ : Ex → St → Prop) : Ex → St → Prop := fun e S' => Holds C P 110 [] K Φ (after C w_sso (b_sso) [1, 1, 1, 0, 1, 0] [] lf e S')
theorem sso_L0 (ex : Bool) (l : List (Nat × Nat)) (p : List Ses × Nat) (K : Nat) (Φ : Ex → St → Prop) :
  (Holds C P 110 [] K (RoundQ C 110 [] K (I_o0 ex l) (QO0) (fun p => 4 - p.2) ((fun p => 4 - p.2) (p)) (rest_sso_0 K Φ)) (vc C w_sso bd_sso_0 [] ((I_o0 ex l) (p)) lf)) =
  (((decide ((((Prod.snd p) : Nat) : Int) < (4 : Int))) = true →
 (Fun W.C W.P 11 [(W.dSe false (Prod.fst p)), (AV.i (((Prod.snd p) : Nat) : Int))] [] (W.ltA (W.begL (W.toLS (W.dSe false (Prod.fst p))) (((Prod.snd p) : Nat) : Int)) (W.begE (W.toLS (W.dSe false (Prod.fst p))) (((Prod.snd p) : Nat) : Int))) [] ∧
  ((W.Sh2) ∧
  (∃ (S2 : St), Ent W.C 110 ([] : List Deferred) K (St.mk [(0, (AV.dat (List.length l) ex 2 (fun (i : Nat) => (AV.arr 2 1 (fun (j : Nat) => (AV.v (Value.int IntKind.u8 (((W.tw (W.wAt l i) j) : Nat) : Int)))))))), (3, (AV.sb true)), (4, (W.dSe false (Prod.fst p))), (5, (AV.ptr 5 [])), (6, (AV.i (((Prod.snd p) : Nat) : Int))), (7, (AV.ptr 7 [])), (17, (AV.v (Value.bool true)))] [(5, (Blk.c (AV.arr 4 1 (fun (j : Nat) => (AV.i (0 : Int)))))), (7, (Blk.c (W.ltA (W.begL (W.toLS (W.dSe false (Prod.fst p))) (((Prod.snd p) : Nat) : Int)) (W.begE (W.toLS (W.dSe false (Prod.fst p))) (((Prod.snd p) : Nat) : Int)))))] [7, 5]) S2 ∧ Holds W.C W.P 110 ([] : List Deferred) K (RoundQ C 110 [] K (I_o0 ex l) (QO0) (fun p => 4 - p.2) ((fun p => 4 - p.2) (p)) (rest_sso_0 K Φ)) (cutAt W.C w_sso bd_sso_0 [1, 0, 0, 1, 0, 0] S2 (after W.C w_sso bd_sso_0 [1, 0, 0, 1, 0, 0] [] lf)))))) ∧
 ((decide ((((Prod.snd p) : Nat) : Int) < (4 : Int))) = false →
 (LoopOK W.C W.P 110 ([] : List Deferred) K (bodyAt b_sso [1, 1, 1, 1, 0, 1, 0]) (St.mk [(0, (AV.dat (List.length l) ex 2 (fun (i : Nat) => (AV.arr 2 1 (fun (j : Nat) => (AV.v (Value.int IntKind.u8 (((W.tw (W.wAt l i) j) : Nat) : Int)))))))), (3, (AV.sb true)), (4, (W.dSe false (Prod.fst p))), (5, (AV.ptr 5 [])), (6, (AV.i (((Prod.snd p) : Nat) : Int))), (8, (AV.i (0 : Int))), (17, (AV.v (Value.bool false)))] [(5, (Blk.c (AV.arr 4 1 (fun (j : Nat) => (AV.i (0 : Int))))))] [5]) (fun (e : Ex) (S' : St) => Holds W.C W.P 110 ([] : List Deferred) K Φ (after W.C w_sso b_sso [1, 1, 1, 1, 0, 1, 0] [] lf e S'))))) := by kernel_rfl
theorem sso_C7 (ex : Bool) (l : List (Nat × Nat)) (m : List Ses) (i : Nat) (o : LR) (K : Nat) (Φ : Ex → St → Prop) :
  (Holds C P 110 [] K Φ (cutAt C w_sso bd_sso_0 [1, 0, 0, 1, 0, 0] (S_o7 ex l m i o) (after C w_sso bd_sso_0 [1, 0, 0, 1, 0, 0] [] lf))) =
  ((((Prod.snd o) != (0 : Int)) = true →
 (Φ Ex.ret (St.mk [(0, (AV.dat (List.length l) ex 2 (fun (i1 : Nat) => (AV.arr 2 1 (fun (j : Nat) => (AV.v (Value.int IntKind.u8 (((W.tw (W.wAt l i1) j) : Nat) : Int)))))))), (2, (AV.v (Value.bool false))), (3, (AV.sb true)), (4, (W.dSe false m)), (5, (AV.ptr 5 [])), (6, (AV.i ((i : Nat) : Int))), (7, (AV.ptr 7 [])), (31, (AV.v (Value.bool true)))] [(5, (Blk.c (AV.arr 4 1 (fun (j : Nat) => (AV.i (0 : Int)))))), (7, (Blk.c (W.ltA (Prod.fst o) (Prod.snd o))))] [5, 7]))) ∧
 (((Prod.snd o) != (0 : Int)) = false →
 (Fun W.C W.P 12 [(W.dSe false (Prod.fst o))] [] (AV.sb (W.vB (W.toLS (W.dSe false (Prod.fst o))))) [] ∧
  (True ∧
  (((! (W.vB (W.toLS (W.dSe false (Prod.fst o))))) = true →
  (Φ Ex.ret (St.mk [(0, (AV.dat (List.length l) ex 2 (fun (i1 : Nat) => (AV.arr 2 1 (fun (j : Nat) => (AV.v (Value.int IntKind.u8 (((W.tw (W.wAt l i1) j) : Nat) : Int)))))))), (2, (AV.v (Value.bool false))), (3, (AV.sb true)), (4, (W.dSe false m)), (5, (AV.ptr 5 [])), (6, (AV.i ((i : Nat) : Int))), (7, (AV.ptr 7 [])), (31, (AV.v (Value.bool true)))] [(5, (Blk.c (AV.arr 4 1 (fun (j : Nat) => (AV.i (0 : Int)))))), (7, (Blk.c (W.ltA (Prod.fst o) (Prod.snd o))))] [5, 7]))) ∧
  ((! (W.vB (W.toLS (W.dSe false (Prod.fst o))))) = false →
  ((I64 (((i + 1) : Nat) : Int)) ∧
   (Φ Ex.normal (St.mk [(0, (AV.dat (List.length l) ex 2 (fun (i1 : Nat) => (AV.arr 2 1 (fun (j : Nat) => (AV.v (Value.int IntKind.u8 (((W.tw (W.wAt l i1) j) : Nat) : Int)))))))), (3, (AV.sb true)), (4, (W.dSe false (Prod.fst o))), (5, (AV.ptr 5 [])), (6, (AV.i (((i + 1) : Nat) : Int))), (7, (AV.ptr 7 [])), (31, (AV.v (Value.bool false)))] [(5, (Blk.c (AV.arr 4 1 (fun (j : Nat) => (AV.i (0 : Int)))))), (7, (Blk.c (W.ltA (Prod.fst o) (Prod.snd o))))] [5, 7]))))))))) := by kernel_rfl
noncomputable abbrev bd_sso_1 : Code := bodyAt (b_sso) [1, 1, 1, 1, 0, 1, 0]
theorem ok_sso_1 : codeOK bd_sso_1 = true := by kernel_rfl
noncomputable abbrev rest_sso_1 (K : Nat) (Φ : Ex → St → Prop) : Ex → St → Prop := fun e S' => Holds C P 110 [] K Φ (after C w_sso (b_sso) [1, 1, 1, 1, 0, 1, 0] [] lf e S')
theorem sso_L1 (ex : Bool) (l : List (Nat × Nat)) (p : List Ses × (Nat → Int) × Nat) (K : Nat) (Φ : Ex → St → Prop) :
  (Holds C P 110 [] K (RoundQ C 110 [] K (I_o2 ex l) (QO1) (fun p => 40 - p.2.2) ((fun p => 40 - p.2.2) (p)) (rest_sso_1 K Φ)) (vc C w_sso bd_sso_1 [] ((I_o2 ex l) (p)) lf)) =
  (((decide ((((Prod.snd (Prod.snd p)) : Nat) : Int) < (((List.length l) : Nat) : Int))) = true →
 (((decide ((((Prod.snd (Prod.snd p)) : Nat) : Int) < (40 : Int))) = true →
  ((((0 : Int) ≤ (((Prod.snd (Prod.snd p)) : Nat) : Int)) ∧ ((((Prod.snd (Prod.snd p)) : Nat) : Int) < (((List.length l) : Nat) : Int))) ∧
   ((((0 : Int) ≤ (0 : Int)) ∧ ((0 : Int) < (2 : Int))) ∧
   (((4 : Int) ≠ (0 : Int)) ∧
   ((I64 ((((W.tw (W.wAt l (Prod.snd (Prod.snd p))) 0) % 4) : Nat) : Int)) ∧
   ((((0 : Int) ≤ (((Prod.snd (Prod.snd p)) : Nat) : Int)) ∧ ((((Prod.snd (Prod.snd p)) : Nat) : Int) < (((List.length l) : Nat) : Int))) ∧
   ((((0 : Int) ≤ (1 : Int)) ∧ ((1 : Int) < (2 : Int))) ∧
   (((12 : Int) ≠ (0 : Int)) ∧
   ((I64 ((((W.tw (W.wAt l (Prod.snd (Prod.snd p))) 1) % 12) : Nat) : Int)) ∧
   (∃ (S2 : St), Ent W.C 110 ([] : List Deferred) K (St.mk [(0, (AV.dat (List.length l) ex 2 (fun (i : Nat) => (AV.arr 2 1 (fun (j : Nat) => (AV.v (Value.int IntKind.u8 (((W.tw (W.wAt l i) j) : Nat) : Int)))))))), (3, (AV.sb true)), (4, (W.dSe false (Prod.fst p))), (5, (AV.ptr 5 [])), (8, (AV.i (((Prod.snd (Prod.snd p)) : Nat) : Int))), (9, (AV.i ((((W.tw (W.wAt l (Prod.snd (Prod.snd p))) 0) % 4) : Nat) : Int))), (10, (AV.i ((((W.tw (W.wAt l (Prod.snd (Prod.snd p))) 1) % 12) : Nat) : Int))), (41, (AV.v (Value.bool true)))] [(5, (Blk.c (AV.arr 4 1 (fun (j : Nat) => (AV.i (Prod.fst (Prod.snd p) j))))))] [5]) S2 ∧ Holds W.C W.P 110 ([] : List Deferred) K (RoundQ C 110 [] K (I_o2 ex l) (QO1) (fun p => 40 - p.2.2) ((fun p => 40 - p.2.2) (p)) (rest_sso_1 K Φ)) (cutAt W.C w_sso bd_sso_1 [1, 0, 0, 1, 0] S2 (after W.C w_sso bd_sso_1 [1, 0, 0, 1, 0] [] lf)))))))))))) ∧
  ((decide ((((Prod.snd (Prod.snd p)) : Nat) : Int) < (40 : Int))) = false →
  (Φ Ex.ret (St.mk [(0, (AV.dat (List.length l) ex 2 (fun (i : Nat) => (AV.arr 2 1 (fun (j : Nat) => (AV.v (Value.int IntKind.u8 (((W.tw (W.wAt l i) j) : Nat) : Int)))))))), (2, (AV.sb true)), (3, (AV.sb true)), (4, (W.dSe false (Prod.fst p))), (5, (AV.ptr 5 [])), (8, (AV.i (((Prod.snd (Prod.snd p)) : Nat) : Int))), (41, (AV.v (Value.bool false)))] [(5, (Blk.c (AV.arr 4 1 (fun (j : Nat) => (AV.i (Prod.fst (Prod.snd p) j))))))] [5]))))) ∧
 ((decide ((((Prod.snd (Prod.snd p)) : Nat) : Int) < (((List.length l) : Nat) : Int))) = false →
 (Φ Ex.ret (St.mk [(0, (AV.dat (List.length l) ex 2 (fun (i : Nat) => (AV.arr 2 1 (fun (j : Nat) => (AV.v (Value.int IntKind.u8 (((W.tw (W.wAt l i) j) : Nat) : Int)))))))), (2, (AV.sb true)), (3, (AV.sb true)), (4, (W.dSe false (Prod.fst p))), (5, (AV.ptr 5 [])), (8, (AV.i (((Prod.snd (Prod.snd p)) : Nat) : Int))), (41, (AV.v (Value.bool false)))] [(5, (Blk.c (AV.arr 4 1 (fun (j : Nat) => (AV.i (Prod.fst (Prod.snd p) j))))))] [5])))) := by kernel_rfl
theorem sso_C14 (ex : Bool) (l : List (Nat × Nat)) (m : List Ses) (f : Nat → Int) (i : Nat) (who : Nat) (seq : Int) (K : Nat) (Φ : Ex → St → Prop) :
  (Holds C P 110 [] K Φ (cutAt C w_sso bd_sso_1 [1, 0, 0, 1, 0] (S_o14 ex l m f i who seq) (after C w_sso bd_sso_1 [1, 0, 0, 1, 0] [] lf))) =
  (Fun W.C W.P 13 [(W.dSe false m), (AV.i ((who : Nat) : Int)), (AV.i seq)] [] (W.lkA (W.seenR (W.toLS (W.dSe false m)) ((who : Nat) : Int) seq) (W.seenB (W.toLS (W.dSe false m)) ((who : Nat) : Int) seq) (W.seenE (W.toLS (W.dSe false m)) ((who : Nat) : Int) seq)) [] ∧
 ((W.ShK) ∧
 (∃ (S2 : St), Ent W.C 110 ([] : List Deferred) K (St.mk [(0, (AV.dat (List.length l) ex 2 (fun (i1 : Nat) => (AV.arr 2 1 (fun (j : Nat) => (AV.v (Value.int IntKind.u8 (((W.tw (W.wAt l i1) j) : Nat) : Int)))))))), (3, (AV.sb true)), (4, (W.dSe false m)), (5, (AV.ptr 5 [])), (8, (AV.i ((i : Nat) : Int))), (9, (AV.i ((who : Nat) : Int))), (10, (AV.i seq)), (11, (AV.ptr 11 []))] [(5, (Blk.c (AV.arr 4 1 (fun (j : Nat) => (AV.i (f j)))))), (11, (Blk.c (W.lkA (W.seenR (W.toLS (W.dSe false m)) ((who : Nat) : Int) seq) (W.seenB (W.toLS (W.dSe false m)) ((who : Nat) : Int) seq) (W.seenE (W.toLS (W.dSe false m)) ((who : Nat) : Int) seq))))] [11, 5]) S2 ∧ Holds W.C W.P 110 ([] : List Deferred) K Φ (cutAt W.C w_sso bd_sso_1 [1, 0, 0, 1, 1, 0, 0] S2 (after W.C w_sso bd_sso_1 [1, 0, 0, 1, 1, 0, 0] [] lf))))) := by kernel_rfl
theorem sso_C15 (ex : Bool) (l : List (Nat × Nat)) (m : List Ses) (f : Nat → Int) (i : Nat) (who : Nat) (seq : Int) (r : Rp) (b : Bool) (e : Int) (K : Nat) (Φ : Ex → St → Prop) :
  (Holds C P 110 [] K Φ (cutAt C w_sso bd_sso_1 [1, 0, 0, 1, 1, 0, 0] (S_o15 ex l m f i who seq r b e) (after C w_sso bd_sso_1 [1, 0, 0, 1, 1, 0, 0] [] lf))) =
  (((e == (0 : Int)) = true →
 ((((0 : Int) ≤ ((who : Nat) : Int)) ∧ (((who : Nat) : Int) < (4 : Int))) ∧
  ((I64 ((f who) + (1 : Int))) ∧
  (((! ((!b) == (seq == ((f who) + (1 : Int))))) = true →
  (Φ Ex.ret (St.mk [(0, (AV.dat (List.length l) ex 2 (fun (i1 : Nat) => (AV.arr 2 1 (fun (j : Nat) => (AV.v (Value.int IntKind.u8 (((W.tw (W.wAt l i1) j) : Nat) : Int)))))))), (2, (AV.v (Value.bool false))), (3, (AV.sb true)), (4, (W.dSe false m)), (5, (AV.ptr 5 [])), (8, (AV.i ((i : Nat) : Int))), (9, (AV.i ((who : Nat) : Int))), (10, (AV.i seq)), (11, (AV.ptr 11 [])), (76, (AV.v (Value.bool true)))] [(5, (Blk.c (AV.arr 4 1 (fun (j : Nat) => (AV.i (f j)))))), (11, (Blk.c (W.lkA r b e)))] [5, 11]))) ∧
  ((! ((!b) == (seq == ((f who) + (1 : Int))))) = false →
  (((e != (0 : Int)) = true →
   ((I64 (((i + 1) : Nat) : Int)) ∧
    (Φ Ex.normal (St.mk [(0, (AV.dat (List.length l) ex 2 (fun (i1 : Nat) => (AV.arr 2 1 (fun (j : Nat) => (AV.v (Value.int IntKind.u8 (((W.tw (W.wAt l i1) j) : Nat) : Int)))))))), (3, (AV.sb true)), (4, (W.dSe false m)), (5, (AV.ptr 5 [])), (8, (AV.i (((i + 1) : Nat) : Int))), (9, (AV.i ((who : Nat) : Int))), (10, (AV.i seq)), (11, (AV.ptr 11 [])), (76, (AV.v (Value.bool false))), (83, (AV.v (Value.bool true)))] [(5, (Blk.c (AV.arr 4 1 (fun (j : Nat) => (AV.i (f j)))))), (11, (Blk.c (W.lkA r b e)))] [5, 11])))) ∧
   ((e != (0 : Int)) = false →
   ((b = true →
    ((I64 (((i + 1) : Nat) : Int)) ∧
     (Φ Ex.normal (St.mk [(0, (AV.dat (List.length l) ex 2 (fun (i1 : Nat) => (AV.arr 2 1 (fun (j : Nat) => (AV.v (Value.int IntKind.u8 (((W.tw (W.wAt l i1) j) : Nat) : Int)))))))), (3, (AV.sb true)), (4, (W.dSe false m)), (5, (AV.ptr 5 [])), (8, (AV.i (((i + 1) : Nat) : Int))), (9, (AV.i ((who : Nat) : Int))), (10, (AV.i seq)), (11, (AV.ptr 11 [])), (76, (AV.v (Value.bool false))), (83, (AV.v (Value.bool true)))] [(5, (Blk.c (AV.arr 4 1 (fun (j : Nat) => (AV.i (f j)))))), (11, (Blk.c (W.lkA r b e)))] [5, 11])))) ∧
    (b = false →
    (∃ (S2 : St), Ent W.C 110 ([] : List Deferred) K (St.mk [(0, (AV.dat (List.length l) ex 2 (fun (i1 : Nat) => (AV.arr 2 1 (fun (j : Nat) => (AV.v (Value.int IntKind.u8 (((W.tw (W.wAt l i1) j) : Nat) : Int)))))))), (3, (AV.sb true)), (4, (W.dSe false m)), (5, (AV.ptr 5 [])), (8, (AV.i ((i : Nat) : Int))), (9, (AV.i ((who : Nat) : Int))), (10, (AV.i seq)), (11, (AV.ptr 11 [])), (76, (AV.v (Value.bool false))), (83, (AV.v (Value.bool false)))] [(5, (Blk.c (AV.arr 4 1 (fun (j : Nat) => (AV.i (f j)))))), (11, (Blk.c (W.lkA r b e)))] [5, 11]) S2 ∧ Holds W.C W.P 110 ([] : List Deferred) K Φ (cutAt W.C w_sso bd_sso_1 [1, 0, 0, 1, 1, 1, 1, 0] S2 (after W.C w_sso bd_sso_1 [1, 0, 0, 1, 1, 1, 1, 0] [] lf)))))))))))) ∧
 ((e == (0 : Int)) = false →
 ((((0 : Int) ≤ ((who : Nat) : Int)) ∧ (((who : Nat) : Int) < (4 : Int))) ∧
  ((I64 ((f who) + (1 : Int))) ∧
  (((! (false == (seq == ((f who) + (1 : Int))))) = true →
  (Φ Ex.ret (St.mk [(0, (AV.dat (List.length l) ex 2 (fun (i1 : Nat) => (AV.arr 2 1 (fun (j : Nat) => (AV.v (Value.int IntKind.u8 (((W.tw (W.wAt l i1) j) : Nat) : Int)))))))), (2, (AV.v (Value.bool false))), (3, (AV.sb true)), (4, (W.dSe false m)), (5, (AV.ptr 5 [])), (8, (AV.i ((i : Nat) : Int))), (9, (AV.i ((who : Nat) : Int))), (10, (AV.i seq)), (11, (AV.ptr 11 [])), (76, (AV.v (Value.bool true)))] [(5, (Blk.c (AV.arr 4 1 (fun (j : Nat) => (AV.i (f j)))))), (11, (Blk.c (W.lkA r b e)))] [5, 11]))) ∧
  ((! (false == (seq == ((f who) + (1 : Int))))) = false →
  (((e != (0 : Int)) = true →
   ((I64 (((i + 1) : Nat) : Int)) ∧
    (Φ Ex.normal (St.mk [(0, (AV.dat (List.length l) ex 2 (fun (i1 : Nat) => (AV.arr 2 1 (fun (j : Nat) => (AV.v (Value.int IntKind.u8 (((W.tw (W.wAt l i1) j) : Nat) : Int)))))))), (3, (AV.sb true)), (4, (W.dSe false m)), (5, (AV.ptr 5 [])), (8, (AV.i (((i + 1) : Nat) : Int))), (9, (AV.i ((who : Nat) : Int))), (10, (AV.i seq)), (11, (AV.ptr 11 [])), (76, (AV.v (Value.bool false))), (83, (AV.v (Value.bool true)))] [(5, (Blk.c (AV.arr 4 1 (fun (j : Nat) => (AV.i (f j)))))), (11, (Blk.c (W.lkA r b e)))] [5, 11])))) ∧
   ((e != (0 : Int)) = false →
   ((b = true →
    ((I64 (((i + 1) : Nat) : Int)) ∧
     (Φ Ex.normal (St.mk [(0, (AV.dat (List.length l) ex 2 (fun (i1 : Nat) => (AV.arr 2 1 (fun (j : Nat) => (AV.v (Value.int IntKind.u8 (((W.tw (W.wAt l i1) j) : Nat) : Int)))))))), (3, (AV.sb true)), (4, (W.dSe false m)), (5, (AV.ptr 5 [])), (8, (AV.i (((i + 1) : Nat) : Int))), (9, (AV.i ((who : Nat) : Int))), (10, (AV.i seq)), (11, (AV.ptr 11 [])), (76, (AV.v (Value.bool false))), (83, (AV.v (Value.bool true)))] [(5, (Blk.c (AV.arr 4 1 (fun (j : Nat) => (AV.i (f j)))))), (11, (Blk.c (W.lkA r b e)))] [5, 11])))) ∧
    (b = false →
    (∃ (S2 : St), Ent W.C 110 ([] : List Deferred) K (St.mk [(0, (AV.dat (List.length l) ex 2 (fun (i1 : Nat) => (AV.arr 2 1 (fun (j : Nat) => (AV.v (Value.int IntKind.u8 (((W.tw (W.wAt l i1) j) : Nat) : Int)))))))), (3, (AV.sb true)), (4, (W.dSe false m)), (5, (AV.ptr 5 [])), (8, (AV.i ((i : Nat) : Int))), (9, (AV.i ((who : Nat) : Int))), (10, (AV.i seq)), (11, (AV.ptr 11 [])), (76, (AV.v (Value.bool false))), (83, (AV.v (Value.bool false)))] [(5, (Blk.c (AV.arr 4 1 (fun (j : Nat) => (AV.i (f j)))))), (11, (Blk.c (W.lkA r b e)))] [5, 11]) S2 ∧ Holds W.C W.P 110 ([] : List Deferred) K Φ (cutAt W.C w_sso bd_sso_1 [1, 0, 0, 1, 1, 1, 1, 0] S2 (after W.C w_sso bd_sso_1 [1, 0, 0, 1, 1, 1, 1, 0] [] lf))))))))))))) := by kernel_rfl
theorem sso_C18 (ex : Bool) (l : List (Nat × Nat)) (m : List Ses) (f : Nat → Int) (i : Nat) (who : Nat) (seq : Int) (K : Nat) (Φ : Ex → St → Prop) :
  (Holds C P 110 [] K Φ (cutAt C w_sso bd_sso_1 [1, 0, 0, 1, 1, 1, 1, 0] (S_o14 ex l m f i who seq) (after C w_sso bd_sso_1 [1, 0, 0, 1, 1, 1, 1, 0] [] lf))) =
  ((I64 (((100 * who) : Nat) : Int)) ∧
 ((I64 ((((100 * who) : Nat) : Int) + seq)) ∧
 (Fun W.C W.P 14 [(W.dSe false m), (AV.i ((who : Nat) : Int)), (AV.i seq), (W.rpN ((((100 * who) : Nat) : Int) + seq))] [] (W.ltA (W.doneL (W.toLS (W.dSe false m)) ((who : Nat) : Int) seq (W.nrep ((((100 * who) : Nat) : Int) + seq))) (W.doneE (W.toLS (W.dSe false m)) ((who : Nat) : Int) seq)) [] ∧
 ((W.Sh2) ∧
 (∃ (S2 : St), Ent W.C 110 ([] : List Deferred) K (St.mk [(0, (AV.dat (List.length l) ex 2 (fun (i1 : Nat) => (AV.arr 2 1 (fun (j : Nat) => (AV.v (Value.int IntKind.u8 (((W.tw (W.wAt l i1) j) : Nat) : Int)))))))), (3, (AV.sb true)), (4, (W.dSe false m)), (5, (AV.ptr 5 [])), (8, (AV.i ((i : Nat) : Int))), (9, (AV.i ((who : Nat) : Int))), (10, (AV.i seq)), (12, (AV.ptr 12 []))] [(5, (Blk.c (AV.arr 4 1 (fun (j : Nat) => (AV.i (f j)))))), (12, (Blk.c (W.ltA (W.doneL (W.toLS (W.dSe false m)) ((who : Nat) : Int) seq (W.nrep ((((100 * who) : Nat) : Int) + seq))) (W.doneE (W.toLS (W.dSe false m)) ((who : Nat) : Int) seq))))] [12, 5]) S2 ∧ Holds W.C W.P 110 ([] : List Deferred) K Φ (cutAt W.C w_sso bd_sso_1 [1, 0, 0, 1, 1, 1, 1, 1, 0, 0] S2 (after W.C w_sso bd_sso_1 [1, 0, 0, 1, 1, 1, 1, 1, 0, 0] [] lf))))))) := by kernel_rfl
theorem sso_C19 (ex : Bool) (l : List (Nat × Nat)) (m : List Ses) (f : Nat → Int) (i : Nat) (who : Nat) (o : LR) (K : Nat) (Φ : Ex → St → Prop) :
  (Holds C P 110 [] K Φ (cutAt C w_sso bd_sso_1 [1, 0, 0, 1, 1, 1, 1, 1, 0, 0] (S_o19 ex l m f i who o) (after C w_sso bd_sso_1 [1, 0, 0, 1, 1, 1, 1, 1, 0, 0] [] lf))) =
  ((((Prod.snd o) != (0 : Int)) = true →
 (Φ Ex.ret (St.mk [(0, (AV.dat (List.length l) ex 2 (fun (i1 : Nat) => (AV.arr 2 1 (fun (j : Nat) => (AV.v (Value.int IntKind.u8 (((W.tw (W.wAt l i1) j) : Nat) : Int)))))))), (2, (AV.v (Value.bool false))), (3, (AV.sb true)), (4, (W.dSe false m)), (5, (AV.ptr 5 [])), (8, (AV.i ((i : Nat) : Int))), (9, (AV.i ((who : Nat) : Int))), (12, (AV.ptr 12 [])), (101, (AV.v (Value.bool true)))] [(5, (Blk.c (AV.arr 4 1 (fun (j : Nat) => (AV.i (f j)))))), (12, (Blk.c (W.ltA (Prod.fst o) (Prod.snd o))))] [5, 12]))) ∧
 (((Prod.snd o) != (0 : Int)) = false →
 (Fun W.C W.P 12 [(W.dSe false (Prod.fst o))] [] (AV.sb (W.vB (W.toLS (W.dSe false (Prod.fst o))))) [] ∧
  (True ∧
  (((! (W.vB (W.toLS (W.dSe false (Prod.fst o))))) = true →
  (Φ Ex.ret (St.mk [(0, (AV.dat (List.length l) ex 2 (fun (i1 : Nat) => (AV.arr 2 1 (fun (j : Nat) => (AV.v (Value.int IntKind.u8 (((W.tw (W.wAt l i1) j) : Nat) : Int)))))))), (2, (AV.v (Value.bool false))), (3, (AV.sb true)), (4, (W.dSe false m)), (5, (AV.ptr 5 [])), (8, (AV.i ((i : Nat) : Int))), (9, (AV.i ((who : Nat) : Int))), (12, (AV.ptr 12 [])), (101, (AV.v (Value.bool true)))] [(5, (Blk.c (AV.arr 4 1 (fun (j : Nat) => (AV.i (f j)))))), (12, (Blk.c (W.ltA (Prod.fst o) (Prod.snd o))))] [5, 12]))) ∧
  ((! (W.vB (W.toLS (W.dSe false (Prod.fst o))))) = false →
  (∃ (S2 : St), Ent W.C 110 ([] : List Deferred) K (St.mk [(0, (AV.dat (List.length l) ex 2 (fun (i1 : Nat) => (AV.arr 2 1 (fun (j : Nat) => (AV.v (Value.int IntKind.u8 (((W.tw (W.wAt l i1) j) : Nat) : Int)))))))), (3, (AV.sb true)), (4, (W.dSe false (Prod.fst o))), (5, (AV.ptr 5 [])), (8, (AV.i ((i : Nat) : Int))), (9, (AV.i ((who : Nat) : Int))), (12, (AV.ptr 12 [])), (101, (AV.v (Value.bool false)))] [(5, (Blk.c (AV.arr 4 1 (fun (j : Nat) => (AV.i (f j)))))), (12, (Blk.c (W.ltA (Prod.fst o) (Prod.snd o))))] [5, 12]) S2 ∧ Holds W.C W.P 110 ([] : List Deferred) K Φ (cutAt W.C w_sso bd_sso_1 [1, 0, 0, 1, 1, 1, 1, 1, 1, 1] S2 (after W.C w_sso bd_sso_1 [1, 0, 0, 1, 1, 1, 1, 1, 1, 1] [] lf))))))))) := by kernel_rfl
theorem sso_C22 (ex : Bool) (l : List (Nat × Nat)) (m : List Ses) (f : Nat → Int) (i : Nat) (who : Nat) (K : Nat) (Φ : Ex → St → Prop) :
  (Holds C P 110 [] K Φ (cutAt C w_sso bd_sso_1 [1, 0, 0, 1, 1, 1, 1, 1, 1, 1] (S_o22 ex l m f i who) (after C w_sso bd_sso_1 [1, 0, 0, 1, 1, 1, 1, 1, 1, 1] [] lf))) =
  ((((0 : Int) ≤ ((who : Nat) : Int)) ∧ (((who : Nat) : Int) < (4 : Int))) ∧
 ((I64 ((f who) + (1 : Int))) ∧
 ((((0 : Int) ≤ ((who : Nat) : Int)) ∧ (((who : Nat) : Int) < (4 : Int))) ∧
 ((I64 (((i + 1) : Nat) : Int)) ∧
 (Φ Ex.normal (St.mk [(0, (AV.dat (List.length l) ex 2 (fun (i1 : Nat) => (AV.arr 2 1 (fun (j : Nat) => (AV.v (Value.int IntKind.u8 (((W.tw (W.wAt l i1) j) : Nat) : Int)))))))), (3, (AV.sb true)), (4, (W.dSe false m)), (5, (AV.ptr 5 [])), (8, (AV.i (((i + 1) : Nat) : Int))), (9, (AV.i ((who : Nat) : Int)))] [(5, (Blk.c (AV.arr 4 1 (fun (j : Nat) => (if (j = who) then (AV.i ((f who) + (1 : Int))) else (AV.i (f j)))))))] [5])))))) := by kernel_rfl
theorem qo_beg {m : List Ses} {i : Nat} (h : QO0 (m, i)) (hi : i < 4) : begE m i = 0 ∧ VS (begL m i) ∧ QO0 (begL m i, i + 1) := by
  obtain ⟨hv, h4, hl, hw⟩ := h
  dsimp only at hv h4 hl hw
  have hh : hasS m i = false := by rw [(hw i).1]; simp
  have e : begE m i = 0 := by unfold begE; rw [if_neg (by omega), hh, if_neg (by simp), if_neg (by omega)]
  have hvb := hv.beg i
  refine ⟨e, hvb, hvb, by dsimp only; omega, by dsimp only; rw [(beg_end hv e).2.2]; omega, fun w => ?_⟩
  dsimp only
  by_cases hwi : w = i
  · subst hwi
    obtain ⟨g1, g2⟩ := hvb.mem (s := seW w) (hv.mem_beg.2 (.inr ⟨e, rfl⟩))
    have g1 : hasS (begL m w) w = true := g1
    have g2 : atS (begL m w) w = seW w := g2
    exact ⟨by rw [g1]; simp, fun _ => by rw [g2]⟩
  · obtain ⟨g1, g2⟩ := (aprt_beg hv i).2 w (by omega)
    dsimp only at g1 g2
    rw [(hw w).1] at g1
    refine ⟨by rw [g1]; exact decide_eq_decide.2 (by omega), fun hlt => ?_⟩
    rw [g2 (by rw [g1]; exact decide_eq_true (by omega))]
    exact (hw w).2 (by omega)
theorem seen3 {m : List Ses} {who seq : Int} (hh : hasS m who = true) : (seq = (atS m who).seq + 1 ∧ seenE m who seq = 0 ∧ seenB m who seq = false) ∨ (seq ≠ (atS m who).seq + 1 ∧ seenE m who seq = 0 ∧ seenB m who seq = true) ∨ (seq ≠ (atS m who).seq + 1 ∧ seenE m who seq ≠ 0) := by
  by_cases h1 : seq = (atS m who).seq + 1
  · left
    have e : seenE m who seq = 0 := by unfold seenE; rw [if_neg (by rw [hh]; simp; omega), if_pos h1]
    exact ⟨h1, e, by unfold seenB; rw [e]; simp [h1]⟩
  · right
    by_cases e : seenE m who seq = 0
    · exact .inl ⟨h1, e, by unfold seenB; rw [e]; simp [h1]⟩
    · exact .inr ⟨h1, e⟩
theorem qo_done {m : List Ses} {f : Nat → Int} {i who : Nat} (h : QO1 (m, f, i)) (hw : who < 4) (hi : i < 40) (h9 : f who + 1 ≤ 1000000000) {r : Rp} (hr : RpOK r) : doneE m who (f who + 1) = 0 ∧ VS (doneL m who (f who + 1) r) ∧ QO1 (doneL m who (f who + 1) r, fun j => if j = who then f who + 1 else f j, i + 1) := by
  obtain ⟨hv, h4, hf⟩ := h
  dsimp only at hv h4 hf
  obtain ⟨hh, hq⟩ := hf who hw
  obtain ⟨e, hvd, hhd, had⟩ := done_at hv (who := (who : Int)) (seq := f who + 1) hr hh (by rw [hq]) h9
  refine ⟨e, hvd, hvd, by dsimp only; omega, fun w hw4 => ?_⟩
  dsimp only
  by_cases hwi : w = who
  · subst hwi
    exact ⟨hhd, by rw [had, if_pos rfl]⟩
  · obtain ⟨g1, g2⟩ := (aprt_done hv (who : Int) (f who + 1) hr).2 w (by omega)
    dsimp only at g1 g2
    obtain ⟨k1, k2⟩ := hf w hw4
    rw [k1] at g1
    exact ⟨g1, by rw [g2 g1, if_neg hwi]; exact k2⟩
theorem sso_fun (ex : Bool) (l : List (Nat × Nat)) : Fun C P F_sso [dTw ex l] [] (.sb true) [] := by
  refine in_sso (W := w_sso) rfl 0 (by simp) rfl (fun id h => absurd rfl h) ?_
  refine of_eq (sso_A ex l 0 _) ⟨sanity_fun, trivial, ⟨rfl, rfl, fun _ _ => ⟨rfl, rfl⟩⟩, ?_⟩
  refine loop_inv (W := w_sso) ctx mixed ok_sso_0 (I_o0 ex l) QO0 (fun p => 4 - p.2) ([], 0) ⟨vs_nil, Nat.zero_le _, Nat.le_refl _, fun w => ⟨by simp [hasS, bsB], fun h => absurd h (Nat.not_lt_zero _)⟩⟩ ?_ fun p hp => ?_
  · exact (ent_freeze _ [14]).trans (ent_of [(5, 5)] rfl (tm_cons rfl (sm_same rfl) (tm_cons rfl (sm_same rfl) (tm_cons rfl (sm_datr rfl (by simp) fun k hk => absurd hk (Nat.not_lt_zero k)) (tm_cons rfl (sm_ptr rfl) (tm_cons rfl (sm_same rfl) tm_nil))))) (hp_cons rfl rfl (sm_same rfl) hp_nil))
  obtain ⟨m, i⟩ := p
  have hv : VS m := hp.1
  have hi4 : i ≤ 4 := hp.2.1
  refine of_eq (sso_L0 ex l (m, i) 0 _) ?_
  dsimp only
  rw [toSeL]
  refine ⟨fun g => ?_, fun g => ?_⟩
  · have g := of_decide_eq_true g
    obtain ⟨e, hvb, hq⟩ := qo_beg hp (by omega)
    rw [e]
    refine ⟨beg_is hv e rfl, sh2_t, S_o7 ex l m i (begL m i, 0), ent_of [(5, 5), (7, 7)] rfl (tm_cons rfl (sm_same rfl) (tm_cons rfl (sm_same rfl) (tm_cons rfl (sm_same rfl) (tm_cons rfl (sm_ptr rfl) (tm_cons rfl (sm_same rfl) (tm_cons rfl (sm_ptr rfl) tm_nil)))))) (hp_cons rfl rfl (sm_same rfl) (hp_cons rfl rfl (sm_same rfl) hp_nil)), ?_⟩
    refine of_eq (sso_C7 ex l m i _ 0 _) ?_
    dsimp only
    rw [toSeL, hvb.vB]
    exact ⟨fun h => (ne_no rfl h).elim, fun _ => ⟨vld hvb, trivial, fun h => (nt_no rfl h).elim, fun _ => ⟨(by first | omega | decide | (unfold I64; omega)), round_end (begL m i, i + 1) hq (ent_of [(5, 5)] rfl (tm_cons rfl (sm_same rfl) (tm_cons rfl (sm_same rfl) (tm_cons rfl (sm_same rfl) (tm_cons rfl (sm_ptr rfl) (tm_cons rfl (sm_same rfl) tm_nil))))) (hp_cons rfl rfl (sm_same rfl) hp_nil)) (by dsimp only; omega)⟩⟩⟩
  have g := of_decide_eq_false g
  obtain rfl : i = 4 := by omega
  refine loop_inv (W := w_sso) ctx mixed ok_sso_1 (I_o2 ex l) QO1 (fun p => 40 - p.2.2) (m, (fun _ => 0), 0) ⟨hv, Nat.zero_le _, fun w hw => ?_⟩ (ent_of [(5, 5)] rfl (tm_cons rfl (sm_same rfl) (tm_cons rfl (sm_same rfl) (tm_cons rfl (sm_same rfl) (tm_cons rfl (sm_ptr rfl) (tm_cons rfl (sm_same rfl) tm_nil))))) (hp_cons rfl rfl (sm_same rfl) hp_nil)) fun p hq => ?_
  · obtain ⟨g1, g2⟩ := hp.2.2.2 w
    exact ⟨g1.trans (decide_eq_true hw), g2 hw⟩
  clear hp hv g hi4
  obtain ⟨m, f, i⟩ := p
  have hv : VS m := hq.1
  refine of_eq (sso_L1 ex l (m, f, i) 0 _) ?_
  dsimp only
  refine ⟨fun g1 => ⟨fun g2 => ?_, fun _ => post_tmp rfl (sm_sb rfl)⟩, fun _ => post_tmp rfl (sm_sb rfl)⟩
  have g1 := of_decide_eq_true g1
  have g2 := of_decide_eq_true g2
  obtain ⟨who, hwho⟩ : ∃ w, w = tw (wAt l i) 0 % 4 := ⟨_, rfl⟩
  obtain ⟨seq, hseq⟩ : ∃ q : Int, q = ((tw (wAt l i) 1 % 12 : Nat) : Int) := ⟨_, rfl⟩
  have hs : 0 ≤ seq ∧ seq < 12 := by omega
  refine ⟨(by first | omega | decide | (unfold I64; omega)), (by first | omega | decide | (unfold I64; omega)), (by first | omega | decide | (unfold I64; omega)), (by first | omega | decide | (unfold I64; omega)), (by first | omega | decide | (unfold I64; omega)), (by first | omega | decide | (unfold I64; omega)), (by first | omega | decide | (unfold I64; omega)), (by first | omega | decide | (unfold I64; omega)), ?_⟩
  have hw4 : who < 4 := by omega
  refine ⟨S_o14 ex l m f i who seq, ent_of [(5, 5)] rfl (tm_cons rfl (sm_same rfl) (tm_cons rfl (sm_same rfl) (tm_cons rfl (sm_same rfl) (tm_cons rfl (sm_ptr rfl) (tm_cons rfl (sm_same rfl) (tm_cons rfl (sm_eq rfl (by rw [hwho])) (tm_cons rfl (sm_eq rfl (by rw [hseq])) tm_nil))))))) (hp_cons rfl rfl (sm_same rfl) hp_nil), ?_⟩
  clear hwho hseq
  refine of_eq (sso_C14 ex l m f i who seq 0 _) ?_
  rw [toSeL]
  obtain ⟨hh, hfq⟩ := hq.2.2 who hw4
  dsimp only at hh hfq
  refine ⟨seen_fun false hv _ _, ⟨shR_t, sh2_t⟩, S_o15 ex l m f i who seq (seenR m who seq) (seenB m who seq) (seenE m who seq), ent_of [(5, 5), (11, 11)] rfl (tm_cons rfl (sm_same rfl) (tm_cons rfl (sm_same rfl) (tm_cons rfl (sm_same rfl) (tm_cons rfl (sm_ptr rfl) (tm_cons rfl (sm_same rfl) (tm_cons rfl (sm_same rfl) (tm_cons rfl (sm_same rfl) (tm_cons rfl (sm_ptr rfl) tm_nil)))))))) (hp_cons rfl rfl (sm_same rfl) (hp_cons rfl rfl (sm_same rfl) hp_nil)), ?_⟩
  have h9 := hv.2.1 _ (hv.at_mem hh).1
  rw [hfq] at h9
  obtain ⟨_, h90, h91, _, _⟩ := h9
  have h3 := seen3 (seq := seq) hh
  rw [hfq] at h3
  refine of_eq (sso_C15 ex l m f i who seq _ _ _ 0 _) ?_
  rcases h3 with ⟨h1, h2, h3⟩ | ⟨h1, h2, h3⟩ | ⟨h1, h2⟩
  · rw [h2, h3]
    refine ⟨fun _ => ⟨(by first | omega | decide | (unfold I64; omega)), (by first | omega | decide | (unfold I64; omega)), fun h => ?_, fun _ => ⟨fun h => (ne_no rfl h).elim, fun _ => ⟨fun h => (Bool.noConfusion h), fun _ => ?_⟩⟩⟩, fun h => (Bool.noConfusion h)⟩
    · simp [h1] at h
    refine ⟨S_o14 ex l m f i who seq, ent_of [(5, 5)] rfl (tm_cons rfl (sm_same rfl) (tm_cons rfl (sm_same rfl) (tm_cons rfl (sm_same rfl) (tm_cons rfl (sm_ptr rfl) (tm_cons rfl (sm_same rfl) (tm_cons rfl (sm_same rfl) (tm_cons rfl (sm_same rfl) tm_nil))))))) (hp_cons rfl rfl (sm_same rfl) hp_nil), ?_⟩
    refine of_eq (sso_C18 ex l m f i who seq 0 _) ?_
    rw [toSeL]
    obtain ⟨d1, hvd, hqd⟩ := qo_done hq hw4 (by omega) (by omega) (nrep_ok (((100 * who : Nat) : Int) + seq))
    rw [← h1] at d1 hvd hqd
    have d1' := d1
    refine ⟨(by first | omega | decide | (unfold I64; omega)), (by first | omega | decide | (unfold I64; omega)), (done_fun false hv who seq (nrep _)).sim ⟨sm_same rfl, sm_same rfl, sm_same rfl, .inr (sm_rpN _), trivial⟩ trivial, sh2_t, ?_⟩
    generalize doneL m who seq (nrep (((100 * who : Nat) : Int) + seq)) = m' at hvd hqd
    refine ⟨S_o19 ex l m f i who (m', 0), ent_of [(5, 5), (12, 12)] rfl (tm_cons rfl (sm_same rfl) (tm_cons rfl (sm_same rfl) (tm_cons rfl (sm_same rfl) (tm_cons rfl (sm_ptr rfl) (tm_cons rfl (sm_same rfl) (tm_cons rfl (sm_same rfl) (tm_cons rfl (sm_ptr rfl) tm_nil))))))) (hp_cons rfl rfl (sm_same rfl) (hp_cons rfl rfl (sm_eq rfl (by rw [d1'])) hp_nil)), ?_⟩
    refine of_eq (sso_C19 ex l m f i who _ 0 _) ?_
    dsimp only
    rw [toSeL, hvd.vB]
    refine ⟨fun h => (ne_no rfl h).elim, fun _ => ⟨vld hvd, trivial, fun h => (nt_no rfl h).elim, fun _ => ?_⟩⟩
    refine ⟨S_o22 ex l m' f i who, ent_of [(5, 5)] rfl (tm_cons rfl (sm_same rfl) (tm_cons rfl (sm_same rfl) (tm_cons rfl (sm_same rfl) (tm_cons rfl (sm_ptr rfl) (tm_cons rfl (sm_same rfl) (tm_cons rfl (sm_same rfl) tm_nil)))))) (hp_cons rfl rfl (sm_same rfl) hp_nil), ?_⟩
    refine of_eq (sso_C22 ex l m' f i who 0 _) ?_
    rw [h1] at hqd
    refine ⟨(by first | omega | decide | (unfold I64; omega)), (by first | omega | decide | (unfold I64; omega)), (by first | omega | decide | (unfold I64; omega)), (by first | omega | decide | (unfold I64; omega)), round_end (m', (fun j => if j = who then f who + 1 else f j), i + 1) hqd (ent_of [(5, 5)] rfl (tm_cons rfl (sm_same rfl) (tm_cons rfl (sm_same rfl) (tm_cons rfl (sm_same rfl) (tm_cons rfl (sm_ptr rfl) (tm_cons rfl (sm_same rfl) tm_nil))))) (hp_cons rfl rfl (sm_arr fun k hk => ?_) hp_nil)) (by dsimp only; omega)⟩
    dsimp only
    split <;> rfl
  · rw [h2, h3]
    refine ⟨fun _ => ⟨(by first | omega | decide | (unfold I64; omega)), (by first | omega | decide | (unfold I64; omega)), fun h => ?_, fun _ => ⟨fun h => (ne_no rfl h).elim, fun _ => ⟨fun _ => ⟨(by first | omega | decide | (unfold I64; omega)), round_end (m, f, i + 1) ⟨hv, by dsimp only; omega, hq.2.2⟩ (ent_of [(5, 5)] rfl (tm_cons rfl (sm_same rfl) (tm_cons rfl (sm_same rfl) (tm_cons rfl (sm_same rfl) (tm_cons rfl (sm_ptr rfl) (tm_cons rfl (sm_same rfl) tm_nil))))) (hp_cons rfl rfl (sm_same rfl) hp_nil)) (by dsimp only; omega)⟩, fun h => (Bool.noConfusion h)⟩⟩⟩, fun h => (Bool.noConfusion h)⟩
    simp [h1] at h
  · generalize seenE m who seq = e at h2
    refine ⟨fun h => absurd (by simpa using h) h2, fun _ => ⟨(by first | omega | decide | (unfold I64; omega)), (by first | omega | decide | (unfold I64; omega)), fun h => ?_, fun _ => ⟨fun _ => ⟨(by first | omega | decide | (unfold I64; omega)), round_end (m, f, i + 1) ⟨hv, by dsimp only; omega, hq.2.2⟩ (ent_of [(5, 5)] rfl (tm_cons rfl (sm_same rfl) (tm_cons rfl (sm_same rfl) (tm_cons rfl (sm_same rfl) (tm_cons rfl (sm_ptr rfl) (tm_cons rfl (sm_same rfl) tm_nil))))) (hp_cons rfl rfl (sm_same rfl) hp_nil)) (by dsimp only; omega)⟩, fun h => absurd (by simpa using h) h2⟩⟩⟩
    simp [h1] at h
theorem sso_law {x0 : AV} (h0 : Typed C.tt 6 22 x0) : Fun C P F_sso [x0] [] (.sb true) [] := by
  obtain ⟨l, ex, _, _, s0⟩ := typed_twos h0
  exact (sso_fun ex l).sim ⟨s0, trivial⟩ trivial
end Go.Bu.W

