/- SessionLists. -/
import Derived.Test.YtaabgmjgldinpaaK16
namespace Go.Bu.W
def w_ssl : Way := wayK [0, 1, 4, 5, 6, 7, 8, 9, 19, 34, 39, 46, 68, 75, 88] 109 [9,14,16,19,21]
def I_l0 (ex : Bool) (l : List Tri) (c : Int) (p : List Ses × Nat) : St := { tm := [(0, dTri ex l), (1, .v (.int .u8 c)), (5, .sb true), (6, dSe false p.1), (7, i64 p.2)], hp := [], seen := [] }
def S_l14 (ex : Bool) (l : List Tri) (c : Int) (m : List Ses) (i : Nat) : St := { tm := [(0, dTri ex l), (1, .v (.int .u8 c)), (5, .sb true), (6, dSe false m), (7, i64 i)], hp := [], seen := [] }
def S_l9 (ex : Bool) (l : List Tri) (c : Int) (m : List Ses) (i : Nat) (who : Int) (x : Tri) : St := { tm := [(0, dTri ex l), (1, .v (.int .u8 c)), (5, .sb true), (6, dSe false m), (7, i64 i), (8, .i who), (34, .v (.int .u8 (((x.1 % 4 : Nat) : Int))))], hp := [], seen := [] }
def S_l16 (c : Int) (m : List Ses) : St := { tm := [(1, .v (.int .u8 c)), (5, .sb true), (6, dSe false m)], hp := [], seen := [] }
def S_l19 (c : Int) (m : List Ses) (o : LR) : St := { tm := [(1, .v (.int .u8 c)), (5, .sb true), (6, dSe false m), (9, .ptr 9 [])], hp := [(9, .c (lrA o))], seen := [9] }

theorem ssl_A (ex : Bool) (l : List Tri) (c : Int) (K : Nat) (Φ : Ex → St → Prop) :
  (Holds C P 109 [] K Φ (vc C w_ssl b_ssl [] (start [dTri ex l, .v (.int .u8 c)] []) lf)) =
  (Fun W.C W.P 10 [] [] (AV.sb true) [] ∧
 (True ∧
 (LoopOK W.C W.P 109 ([] : List Deferred) K (bodyAt b_ssl [1, 1, 1, 0, 1, 0]) (St.mk [(0, (W.dTri ex l)), (1, (AV.v (Value.int IntKind.u8 c))), (4, (AV.v (Value.bool false))), (5, (AV.sb true)), (6, (AV.sl 11 [] 0 0 0 true 14)), (7, (AV.i (0 : Int)))] [(11, (Blk.c (AV.st [])))] [11]) (fun (e : Ex) (S' : St) => Holds W.C W.P 109 ([] : List Deferred) K Φ (after W.C w_ssl b_ssl [1, 1, 1, 0, 1, 0] [] lf e S'))))) := by kernel_rfl
noncomputable abbrev bd_ssl_0 : Code := bodyAt (b_ssl) [1, 1, 1, 0, 1, 0]
theorem ok_ssl_0 : codeOK bd_ssl_0 = true := by kernel_rfl
noncomputable abbrev rest_ssl_0 (K : Nat) (Φ : Ex → St → Prop) : Ex → St → Prop := fun e S' => Holds C P 109 [] K Φ (after C w_ssl (b_ssl) [1, 1, 1, 0, 1, 0] [] lf e S')
theorem ssl_L0 (ex : Bool) (l : List Tri) (c : Int) (p : List Ses × Nat) (K : Nat) (Φ : Ex → St → Prop) :
  (Holds C P 109 [] K (RoundQ C 109 [] K (I_l0 ex l c) (fun p => VS p.1 ∧ p.2 ≤ l.length ∧ p.2 ≤ 30) (fun p => 30 - p.2) ((fun p => 30 - p.2) (p)) (rest_ssl_0 K Φ)) (vc C w_ssl bd_ssl_0 [] ((I_l0 ex l c) (p)) lf)) =
  (((decide ((((Prod.snd p) : Nat) : Int) < (((List.length l) : Nat) : Int))) = true →
 (((decide ((((Prod.snd p) : Nat) : Int) < (30 : Int))) = true →
  ((((0 : Int) ≤ (((Prod.snd p) : Nat) : Int)) ∧ ((((Prod.snd p) : Nat) : Int) < (((List.length l) : Nat) : Int))) ∧
   ((((0 : Int) ≤ (1 : Int)) ∧ ((1 : Int) < (3 : Int))) ∧
   (((12 : Int) ≠ (0 : Int)) ∧
   ((I64 ((((W.tri (W.tAt l (Prod.snd p)) 1) % 12) : Nat) : Int)) ∧
   ((((0 : Int) ≤ (((Prod.snd p) : Nat) : Int)) ∧ ((((Prod.snd p) : Nat) : Int) < (((List.length l) : Nat) : Int))) ∧
   ((((0 : Int) ≤ (0 : Int)) ∧ ((0 : Int) < (3 : Int))) ∧
   (((4 : Int) ≠ (0 : Int)) ∧
   (∃ (S2 : St), Ent W.C 109 ([] : List Deferred) K (St.mk [(0, (W.dTri ex l)), (1, (AV.v (Value.int IntKind.u8 c))), (5, (AV.sb true)), (6, (W.dSe false (Prod.fst p))), (7, (AV.i (((Prod.snd p) : Nat) : Int))), (8, (AV.i ((((W.tri (W.tAt l (Prod.snd p)) 1) % 12) : Nat) : Int))), (19, (AV.v (Value.bool true))), (34, (AV.v (Value.int IntKind.u8 ((((W.tri (W.tAt l (Prod.snd p)) 0) % 4) : Nat) : Int))))] [] []) S2 ∧ Holds W.C W.P 109 ([] : List Deferred) K (RoundQ C 109 [] K (I_l0 ex l c) (fun p => VS p.1 ∧ p.2 ≤ l.length ∧ p.2 ≤ 30) (fun p => 30 - p.2) ((fun p => 30 - p.2) (p)) (rest_ssl_0 K Φ)) (cutAt W.C w_ssl bd_ssl_0 [1, 0, 0, 1, 0, 1, 0, 0, 0] S2 (after W.C w_ssl bd_ssl_0 [1, 0, 0, 1, 0, 1, 0, 0, 0] [] lf))))))))))) ∧
  ((decide ((((Prod.snd p) : Nat) : Int) < (30 : Int))) = false →
  (∃ (S2 : St), Ent W.C 109 ([] : List Deferred) K (St.mk [(0, (W.dTri ex l)), (1, (AV.v (Value.int IntKind.u8 c))), (5, (AV.sb true)), (6, (W.dSe false (Prod.fst p))), (7, (AV.i (((Prod.snd p) : Nat) : Int))), (19, (AV.v (Value.bool false)))] [] []) S2 ∧ Holds W.C W.P 109 ([] : List Deferred) K Φ (cutAt W.C w_ssl b_ssl [1, 1, 1, 1, 0] S2 (after W.C w_ssl b_ssl [1, 1, 1, 1, 0] [] lf)))))) ∧
 ((decide ((((Prod.snd p) : Nat) : Int) < (((List.length l) : Nat) : Int))) = false →
 (∃ (S2 : St), Ent W.C 109 ([] : List Deferred) K (St.mk [(0, (W.dTri ex l)), (1, (AV.v (Value.int IntKind.u8 c))), (5, (AV.sb true)), (6, (W.dSe false (Prod.fst p))), (7, (AV.i (((Prod.snd p) : Nat) : Int))), (19, (AV.v (Value.bool false)))] [] []) S2 ∧ Holds W.C W.P 109 ([] : List Deferred) K Φ (cutAt W.C w_ssl b_ssl [1, 1, 1, 1, 0] S2 (after W.C w_ssl b_ssl [1, 1, 1, 1, 0] [] lf))))) := by kernel_rfl
theorem ssl_C9 (ex : Bool) (l : List Tri) (c : Int) (m : List Ses) (i : Nat) (who : Int) (x : Tri) (K : Nat) (Φ : Ex → St → Prop) :
  (Holds C P 109 [] K Φ (cutAt C w_ssl bd_ssl_0 [1, 0, 0, 1, 0, 1, 0, 0, 0] (S_l9 ex l c m i who x) (after C w_ssl bd_ssl_0 [1, 0, 0, 1, 0, 1, 0, 0, 0] [] lf))) =
  (((((((Prod.fst x) % 4) : Nat) : Int) == (0 : Int)) = true →
 (Fun W.C W.P 11 [(W.dSe false m), (AV.i who)] [] (W.ltA (W.begL (W.toLS (W.dSe false m)) who) (W.begE (W.toLS (W.dSe false m)) who)) [] ∧
  (∃ (S2 : St), Ent W.C 109 ([] : List Deferred) K (St.mk [(0, (W.dTri ex l)), (1, (AV.v (Value.int IntKind.u8 c))), (5, (AV.sb true)), (6, (W.dSe false (W.begL (W.toLS (W.dSe false m)) who))), (7, (AV.i ((i : Nat) : Int))), (8, (AV.i who)), (34, (AV.v (Value.int IntKind.u8 ((((Prod.fst x) % 4) : Nat) : Int)))), (39, (AV.v (Value.bool true)))] [] []) S2 ∧ Holds W.C W.P 109 ([] : List Deferred) K Φ (cutAt W.C w_ssl bd_ssl_0 [1, 0, 0, 1, 1, 0] S2 (after W.C w_ssl bd_ssl_0 [1, 0, 0, 1, 1, 0] [] lf))))) ∧
 ((((((Prod.fst x) % 4) : Nat) : Int) == (0 : Int)) = false →
 (((((((Prod.fst x) % 4) : Nat) : Int) == (1 : Int)) = true →
  (Fun W.C W.P 11 [(W.dSe false m), (AV.i who)] [] (W.ltA (W.begL (W.toLS (W.dSe false m)) who) (W.begE (W.toLS (W.dSe false m)) who)) [] ∧
   (∃ (S2 : St), Ent W.C 109 ([] : List Deferred) K (St.mk [(0, (W.dTri ex l)), (1, (AV.v (Value.int IntKind.u8 c))), (5, (AV.sb true)), (6, (W.dSe false (W.begL (W.toLS (W.dSe false m)) who))), (7, (AV.i ((i : Nat) : Int))), (8, (AV.i who)), (34, (AV.v (Value.int IntKind.u8 ((((Prod.fst x) % 4) : Nat) : Int)))), (39, (AV.v (Value.bool true)))] [] []) S2 ∧ Holds W.C W.P 109 ([] : List Deferred) K Φ (cutAt W.C w_ssl bd_ssl_0 [1, 0, 0, 1, 1, 0] S2 (after W.C w_ssl bd_ssl_0 [1, 0, 0, 1, 1, 0] [] lf))))) ∧
  ((((((Prod.fst x) % 4) : Nat) : Int) == (1 : Int)) = false →
  (((((((Prod.fst x) % 4) : Nat) : Int) == (2 : Int)) = true →
   ((((0 : Int) ≤ ((i : Nat) : Int)) ∧ (((i : Nat) : Int) < (((List.length l) : Nat) : Int))) ∧
    ((((0 : Int) ≤ (2 : Int)) ∧ ((2 : Int) < (3 : Int))) ∧
    (((4 : Int) ≠ (0 : Int)) ∧
    ((I64 ((((W.tri (W.tAt l i) 2) % 4) : Nat) : Int)) ∧
    (Fun W.C W.P 14 [(W.dSe false m), (AV.i who), (AV.i ((((W.tri (W.tAt l i) 2) % 4) : Nat) : Int)), (W.rpN ((i : Nat) : Int))] [] (W.ltA (W.doneL (W.toLS (W.dSe false m)) who ((((W.tri (W.tAt l i) 2) % 4) : Nat) : Int) (W.nrep ((i : Nat) : Int))) (W.doneE (W.toLS (W.dSe false m)) who ((((W.tri (W.tAt l i) 2) % 4) : Nat) : Int))) [] ∧
    (∃ (S2 : St), Ent W.C 109 ([] : List Deferred) K (St.mk [(0, (W.dTri ex l)), (1, (AV.v (Value.int IntKind.u8 c))), (5, (AV.sb true)), (6, (W.dSe false (W.doneL (W.toLS (W.dSe false m)) who ((((W.tri (W.tAt l i) 2) % 4) : Nat) : Int) (W.nrep ((i : Nat) : Int))))), (7, (AV.i ((i : Nat) : Int))), (8, (AV.i who)), (34, (AV.v (Value.int IntKind.u8 ((((Prod.fst x) % 4) : Nat) : Int)))), (39, (AV.v (Value.bool false))), (46, (AV.v (Value.bool true)))] [] []) S2 ∧ Holds W.C W.P 109 ([] : List Deferred) K Φ (cutAt W.C w_ssl bd_ssl_0 [1, 0, 0, 1, 1, 0] S2 (after W.C w_ssl bd_ssl_0 [1, 0, 0, 1, 1, 0] [] lf))))))))) ∧
   ((((((Prod.fst x) % 4) : Nat) : Int) == (2 : Int)) = false →
   (Fun W.C W.P 23 [(W.dSe false m), (AV.i who)] [] (W.ltA (W.endL (W.toLS (W.dSe false m)) who) (W.endE (W.toLS (W.dSe false m)) who)) [] ∧
    (∃ (S2 : St), Ent W.C 109 ([] : List Deferred) K (St.mk [(0, (W.dTri ex l)), (1, (AV.v (Value.int IntKind.u8 c))), (5, (AV.sb true)), (6, (W.dSe false (W.endL (W.toLS (W.dSe false m)) who))), (7, (AV.i ((i : Nat) : Int))), (8, (AV.i who)), (34, (AV.v (Value.int IntKind.u8 ((((Prod.fst x) % 4) : Nat) : Int)))), (39, (AV.v (Value.bool false))), (46, (AV.v (Value.bool false)))] [] []) S2 ∧ Holds W.C W.P 109 ([] : List Deferred) K Φ (cutAt W.C w_ssl bd_ssl_0 [1, 0, 0, 1, 1, 0] S2 (after W.C w_ssl bd_ssl_0 [1, 0, 0, 1, 1, 0] [] lf)))))))))) := by kernel_rfl
theorem ssl_C14 (ex : Bool) (l : List Tri) (c : Int) (m : List Ses) (i : Nat) (K : Nat) (Φ : Ex → St → Prop) :
  (Holds C P 109 [] K Φ (cutAt C w_ssl bd_ssl_0 [1, 0, 0, 1, 1, 0] (S_l14 ex l c m i) (after C w_ssl bd_ssl_0 [1, 0, 0, 1, 1, 0] [] lf))) =
  (Fun W.C W.P 25 [(W.dSe false m)] [] (AV.sb (W.vB (W.toLS (W.dSe false m)))) [] ∧
 (True ∧
 (((! (W.vB (W.toLS (W.dSe false m)))) = true →
 (Φ Ex.ret (St.mk [(0, (W.dTri ex l)), (1, (AV.v (Value.int IntKind.u8 c))), (4, (AV.v (Value.bool false))), (5, (AV.sb true)), (6, (W.dSe false m)), (7, (AV.i ((i : Nat) : Int))), (68, (AV.v (Value.bool true)))] [] []))) ∧
 ((! (W.vB (W.toLS (W.dSe false m)))) = false →
 (Fun W.C W.P 12 [(W.dSe false m)] [] (AV.sb (W.vB (W.toLS (W.dSe false m)))) [] ∧
  (True ∧
  (((! (W.vB (W.toLS (W.dSe false m)))) = true →
  (Φ Ex.ret (St.mk [(0, (W.dTri ex l)), (1, (AV.v (Value.int IntKind.u8 c))), (4, (AV.v (Value.bool false))), (5, (AV.sb true)), (6, (W.dSe false m)), (7, (AV.i ((i : Nat) : Int))), (68, (AV.v (Value.bool true)))] [] []))) ∧
  ((! (W.vB (W.toLS (W.dSe false m)))) = false →
  ((I64 (((i + 1) : Nat) : Int)) ∧
   (Φ Ex.normal (St.mk [(0, (W.dTri ex l)), (1, (AV.v (Value.int IntKind.u8 c))), (5, (AV.sb true)), (6, (W.dSe false m)), (7, (AV.i (((i + 1) : Nat) : Int))), (68, (AV.v (Value.bool false)))] [] []))))))))))) := by kernel_rfl
theorem ssl_C16 (c : Int) (m : List Ses) (K : Nat) (Φ : Ex → St → Prop) :
  (Holds C P 109 [] K Φ (cutAt C w_ssl b_ssl [1, 1, 1, 1, 0] (S_l16 c m) (after C w_ssl b_ssl [1, 1, 1, 1, 0] [] lf))) =
  ((I64 c) ∧
 (Fun W.C W.P 11 [(W.dSe false m), (AV.i c)] [] (W.ltA (W.begL (W.toLS (W.dSe false m)) c) (W.begE (W.toLS (W.dSe false m)) c)) [] ∧
 ((W.Sh2) ∧
 ((((W.begE (W.toLS (W.dSe false m)) c) != (0 : Int)) = true →
 (Fun W.C W.P 19 [(W.ltA (W.begL (W.toLS (W.dSe false m)) c) (W.begE (W.toLS (W.dSe false m)) c)), (W.ltA m (W.begE (W.toLS (W.dSe false m)) c))] [] (AV.sb (W.eqLt ((W.toLS (W.dSe false (W.begL (W.toLS (W.dSe false m)) c))), (W.begE (W.toLS (W.dSe false m)) c)) ((W.toLS (W.dSe false m)), (W.begE (W.toLS (W.dSe false m)) c)))) [] ∧
  (True ∧
  (((W.eqLt ((W.toLS (W.dSe false (W.begL (W.toLS (W.dSe false m)) c))), (W.begE (W.toLS (W.dSe false m)) c)) ((W.toLS (W.dSe false m)), (W.begE (W.toLS (W.dSe false m)) c))) = true →
  (Φ Ex.ret (St.mk [(1, (AV.v (Value.int IntKind.u8 c))), (4, (AV.sb true)), (5, (AV.sb true)), (6, (W.dSe false m)), (9, (AV.ptr 9 [])), (75, (AV.v (Value.bool true)))] [(9, (Blk.c (W.ltA (W.begL (W.toLS (W.dSe false m)) c) (W.begE (W.toLS (W.dSe false m)) c))))] [9]))) ∧
  ((W.eqLt ((W.toLS (W.dSe false (W.begL (W.toLS (W.dSe false m)) c))), (W.begE (W.toLS (W.dSe false m)) c)) ((W.toLS (W.dSe false m)), (W.begE (W.toLS (W.dSe false m)) c))) = false →
  (Φ Ex.ret (St.mk [(1, (AV.v (Value.int IntKind.u8 c))), (4, (AV.v (Value.bool false))), (5, (AV.sb true)), (6, (W.dSe false m)), (9, (AV.ptr 9 [])), (75, (AV.v (Value.bool true)))] [(9, (Blk.c (W.ltA (W.begL (W.toLS (W.dSe false m)) c) (W.begE (W.toLS (W.dSe false m)) c))))] [9]))))))) ∧
 (((W.begE (W.toLS (W.dSe false m)) c) != (0 : Int)) = false →
 (∃ (S2 : St), Ent W.C 109 ([] : List Deferred) K (St.mk [(1, (AV.v (Value.int IntKind.u8 c))), (5, (AV.sb true)), (6, (W.dSe false m)), (9, (AV.ptr 9 [])), (75, (AV.v (Value.bool false)))] [(9, (Blk.c (W.ltA (W.begL (W.toLS (W.dSe false m)) c) (W.begE (W.toLS (W.dSe false m)) c))))] [9]) S2 ∧ Holds W.C W.P 109 ([] : List Deferred) K Φ (cutAt W.C w_ssl b_ssl [1, 1, 1, 1, 1, 1, 0, 0] S2 (after W.C w_ssl b_ssl [1, 1, 1, 1, 1, 1, 0, 0] [] lf)))))))) := by kernel_rfl
theorem ssl_C19 (c : Int) (m : List Ses) (o : LR) (K : Nat) (Φ : Ex → St → Prop) :
  (Holds C P 109 [] K Φ (cutAt C w_ssl b_ssl [1, 1, 1, 1, 1, 1, 0, 0] (S_l19 c m o) (after C w_ssl b_ssl [1, 1, 1, 1, 1, 1, 0, 0] [] lf))) =
  (Fun W.C W.P 12 [(W.dSe false (Prod.fst o))] [] (AV.sb (W.vB (W.toLS (W.dSe false (Prod.fst o))))) [] ∧
 (True ∧
 (((! (W.vB (W.toLS (W.dSe false (Prod.fst o))))) = true →
 (Φ Ex.ret (St.mk [(1, (AV.v (Value.int IntKind.u8 c))), (4, (AV.v (Value.bool false))), (5, (AV.sb true)), (6, (W.dSe false m)), (9, (AV.ptr 9 [])), (88, (AV.v (Value.bool true)))] [(9, (Blk.c (W.ltA (Prod.fst o) (Prod.snd o))))] [9]))) ∧
 ((! (W.vB (W.toLS (W.dSe false (Prod.fst o))))) = false →
 (∃ (S2 : St), Ent W.C 109 ([] : List Deferred) K (St.mk [(1, (AV.v (Value.int IntKind.u8 c))), (5, (AV.sb true)), (6, (W.dSe false m)), (9, (AV.ptr 9 [])), (88, (AV.v (Value.bool false)))] [(9, (Blk.c (W.ltA (Prod.fst o) (Prod.snd o))))] [9]) S2 ∧ Holds W.C W.P 109 ([] : List Deferred) K Φ (cutAt W.C w_ssl b_ssl [1, 1, 1, 1, 1, 1, 1, 0] S2 (after W.C w_ssl b_ssl [1, 1, 1, 1, 1, 1, 1, 0] [] lf))))))) := by kernel_rfl
theorem ssl_C21 (c : Int) (m : List Ses) (o : LR) (K : Nat) (Φ : Ex → St → Prop) :
  (Holds C P 109 [] K Φ (cutAt C w_ssl b_ssl [1, 1, 1, 1, 1, 1, 1, 0] (S_l19 c m o) (after C w_ssl b_ssl [1, 1, 1, 1, 1, 1, 1, 0] [] lf))) =
  ((I64 c) ∧
 (Fun W.C W.P 23 [(W.dSe false (Prod.fst o)), (AV.i c)] [] (W.ltA (W.endL (W.toLS (W.dSe false (Prod.fst o))) c) (W.endE (W.toLS (W.dSe false (Prod.fst o))) c)) [] ∧
 (Fun W.C W.P 19 [(W.ltA (W.endL (W.toLS (W.dSe false (Prod.fst o))) c) (W.endE (W.toLS (W.dSe false (Prod.fst o))) c)), (W.ltA m (0 : Int))] [] (AV.sb (W.eqLt ((W.toLS (W.dSe false (W.endL (W.toLS (W.dSe false (Prod.fst o))) c))), (W.endE (W.toLS (W.dSe false (Prod.fst o))) c)) ((W.toLS (W.dSe false m)), (0 : Int)))) [] ∧
 (True ∧
 (((W.eqLt ((W.toLS (W.dSe false (W.endL (W.toLS (W.dSe false (Prod.fst o))) c))), (W.endE (W.toLS (W.dSe false (Prod.fst o))) c)) ((W.toLS (W.dSe false m)), (0 : Int))) = true →
 ((I64 ((((List.length m) + 1) : Nat) : Int)) ∧
  ((((((List.length (Prod.fst o)) : Nat) : Int) == ((((List.length m) + 1) : Nat) : Int)) = true →
  (Φ Ex.ret (St.mk [(1, (AV.v (Value.int IntKind.u8 c))), (4, (AV.sb true)), (5, (AV.sb true)), (6, (W.dSe false m)), (9, (AV.ptr 9 []))] [(9, (Blk.c (W.ltA (Prod.fst o) (Prod.snd o))))] [9]))) ∧
  (((((List.length (Prod.fst o)) : Nat) : Int) == ((((List.length m) + 1) : Nat) : Int)) = false →
  (Φ Ex.ret (St.mk [(1, (AV.v (Value.int IntKind.u8 c))), (4, (AV.v (Value.bool false))), (5, (AV.sb true)), (6, (W.dSe false m)), (9, (AV.ptr 9 []))] [(9, (Blk.c (W.ltA (Prod.fst o) (Prod.snd o))))] [9])))))) ∧
 ((W.eqLt ((W.toLS (W.dSe false (W.endL (W.toLS (W.dSe false (Prod.fst o))) c))), (W.endE (W.toLS (W.dSe false (Prod.fst o))) c)) ((W.toLS (W.dSe false m)), (0 : Int))) = false →
 (Φ Ex.ret (St.mk [(1, (AV.v (Value.int IntKind.u8 c))), (4, (AV.v (Value.bool false))), (5, (AV.sb true)), (6, (W.dSe false m)), (9, (AV.ptr 9 []))] [(9, (Blk.c (W.ltA (Prod.fst o) (Prod.snd o))))] [9])))))))) := by kernel_rfl
theorem ssl_16 {c : Nat} (hc : c < 256) {m : List Ses} (hv : VS m) : Holds C P 109 [] 0 (FunPost C 109 0 [.tmp 4] (.sb true) []) (cutAt C w_ssl b_ssl [1, 1, 1, 1, 0] (S_l16 c m) (after C w_ssl b_ssl [1, 1, 1, 1, 0] [] lf)) := by
  refine of_eq (ssl_C16 c m 0 _) ?_
  simp only [toSeL]
  refine ⟨(by first | omega | decide | (unfold I64; omega)), begin_fun false hv c, sh2_t, fun h => ?_, fun h => ?_⟩
  · have h : begE m c ≠ 0 := by simpa using h
    rw [beg_no h]
    have q := eqLt_r (m, begE m c)
    rw [q]
    exact ⟨sameT_is hv q, trivial, fun _ => post_tmp rfl (sm_sb rfl), fun h => (nb_no h).elim⟩
  · have h : begE m c = 0 := by simpa using h
    obtain ⟨g1, g2, g3⟩ := beg_end hv h
    have hb := hv.beg c
    refine ⟨S_l19 c m (begL m c, begE m c), ent_of [(9, 9)] rfl (tm_cons rfl (sm_same rfl) (tm_cons rfl (sm_same rfl) (tm_cons rfl (sm_same rfl) (tm_cons rfl (sm_ptr rfl) tm_nil)))) (hp_cons rfl rfl (sm_same rfl) hp_nil), ?_⟩
    refine of_eq (ssl_C19 c m _ 0 _) ?_
    simp only [toSeL]
    rw [hb.vB]
    refine ⟨vld hb, trivial, fun h => (nt_no rfl h).elim, fun _ => ?_⟩
    refine ⟨S_l19 c m (begL m c, begE m c), ent_of [(9, 9)] rfl (tm_cons rfl (sm_same rfl) (tm_cons rfl (sm_same rfl) (tm_cons rfl (sm_same rfl) (tm_cons rfl (sm_ptr rfl) tm_nil)))) (hp_cons rfl rfl (sm_same rfl) hp_nil), ?_⟩
    refine of_eq (ssl_C21 c m _ 0 _) ?_
    simp only [toSeL]
    have q := eqLt_r (m, 0)
    have hm := hv.2.2
    rw [g1, g2, g3, q]
    refine ⟨(by first | omega | decide | (unfold I64; omega)), end_is hb g1 g2, sameT_is hv q, trivial, fun _ => ⟨(by first | omega | decide | (unfold I64; omega)), fun _ => post_tmp rfl (sm_sb rfl), fun h => ?_⟩, fun h => (nb_no h).elim⟩
    simp at h
theorem ssl_fun (ex : Bool) (l : List Tri) {c : Nat} (hc : c < 256) : Fun C P F_ssl [dTri ex l, u8 c] [] (.sb true) [] := by
  refine in_ssl (W := w_ssl) rfl 0 (by simp) rfl (fun id h => absurd rfl h) ?_
  refine of_eq (ssl_A ex l c 0 _) ⟨sanity_fun, trivial, ?_⟩
  refine loop_inv (W := w_ssl) ctx mixed ok_ssl_0 (I_l0 ex l c) (fun p => VS p.1 ∧ p.2 ≤ l.length ∧ p.2 ≤ 30) (fun p => 30 - p.2) ([], 0) ⟨vs_nil, Nat.zero_le _, Nat.zero_le _⟩ ?_ fun p hp => ?_
  · exact (ent_freeze _ [11]).trans (ent_of [] rfl (tm_cons rfl (sm_same rfl) (tm_cons rfl (sm_same rfl) (tm_cons rfl (sm_same rfl) (tm_cons rfl (sm_datr rfl (by simp) fun k hk => absurd hk (Nat.not_lt_zero k)) (tm_cons rfl (sm_same rfl) tm_nil))))) hp_nil)
  obtain ⟨m, i⟩ := p
  obtain ⟨hv, hi, h30⟩ := hp
  dsimp only at hv hi h30
  have k14 : ∀ m', VS m' → i < l.length → i < 30 → Holds C P 109 [] 0 (RoundQ C 109 [] 0 (I_l0 ex l c) (fun p => VS p.1 ∧ p.2 ≤ l.length ∧ p.2 ≤ 30) (fun p => 30 - p.2) (30 - i) (rest_ssl_0 0 (FunPost C 109 0 [.tmp 4] (.sb true) []))) (cutAt C w_ssl bd_ssl_0 [1, 0, 0, 1, 1, 0] (S_l14 ex l c m' i) (after C w_ssl bd_ssl_0 [1, 0, 0, 1, 1, 0] [] lf)) := fun m' hv' h1 h2 => by
    refine of_eq (ssl_C14 ex l c m' i 0 _) ?_
    simp only [toSeL]
    rw [hv'.vB]
    exact ⟨vld2 hv', trivial, fun h => (nt_no rfl h).elim, fun _ => ⟨vld hv', trivial, fun h => (nt_no rfl h).elim, fun _ => ⟨(by first | omega | decide | (unfold I64; omega)), round_end (m', i + 1) ⟨hv', by dsimp only; omega, by dsimp only; omega⟩ (ent_of [] rfl (tm_cons rfl (sm_same rfl) (tm_cons rfl (sm_same rfl) (tm_cons rfl (sm_same rfl) (tm_cons rfl (sm_same rfl) (tm_cons rfl (sm_same rfl) tm_nil))))) hp_nil) (by dsimp only; omega)⟩⟩⟩
  refine of_eq (ssl_L0 ex l c (m, i) 0 _) ?_
  dsimp only
  obtain ⟨x, hx⟩ : ∃ x, x = tAt l i := ⟨_, rfl⟩
  rw [← hx]
  have t0 : tri x 0 = x.1 := rfl
  have t1 : tri x 1 = x.2.1 := rfl
  rw [t0, t1]
  refine ⟨fun g1 => ⟨fun g2 => ?_, fun _ => ⟨S_l16 c m, ent_of [] rfl (tm_cons rfl (sm_same rfl) (tm_cons rfl (sm_same rfl) (tm_cons rfl (sm_same rfl) tm_nil))) hp_nil, ssl_16 hc hv⟩⟩, fun _ => ⟨S_l16 c m, ent_of [] rfl (tm_cons rfl (sm_same rfl) (tm_cons rfl (sm_same rfl) (tm_cons rfl (sm_same rfl) tm_nil))) hp_nil, ssl_16 hc hv⟩⟩
  have g1 := of_decide_eq_true g1
  have g2 := of_decide_eq_true g2
  have k14 := fun m' hv' => k14 m' hv' (by omega) (by omega)
  refine ⟨(by first | omega | decide | (unfold I64; omega)), (by first | omega | decide | (unfold I64; omega)), (by first | omega | decide | (unfold I64; omega)), (by first | omega | decide | (unfold I64; omega)), (by first | omega | decide | (unfold I64; omega)), (by first | omega | decide | (unfold I64; omega)), (by first | omega | decide | (unfold I64; omega)), ?_⟩
  refine ⟨S_l9 ex l c m i ((x.2.1 % 12 : Nat) : Int) x, ent_of [] rfl (tm_cons rfl (sm_same rfl) (tm_cons rfl (sm_same rfl) (tm_cons rfl (sm_same rfl) (tm_cons rfl (sm_same rfl) (tm_cons rfl (sm_same rfl) (tm_cons rfl (sm_same rfl) (tm_cons rfl (sm_same rfl) tm_nil))))))) hp_nil, ?_⟩
  refine of_eq (ssl_C9 ex l c m i _ x 0 _) ?_
  simp only [toSeL]
  refine ⟨fun _ => ⟨begin_fun false hv _, S_l14 ex l c _ i, ent_of [] rfl (tm_cons rfl (sm_same rfl) (tm_cons rfl (sm_same rfl) (tm_cons rfl (sm_same rfl) (tm_cons rfl (sm_same rfl) (tm_cons rfl (sm_same rfl) tm_nil))))) hp_nil, k14 _ (hv.beg _)⟩, fun _ => ⟨fun _ => ⟨begin_fun false hv _, S_l14 ex l c _ i, ent_of [] rfl (tm_cons rfl (sm_same rfl) (tm_cons rfl (sm_same rfl) (tm_cons rfl (sm_same rfl) (tm_cons rfl (sm_same rfl) (tm_cons rfl (sm_same rfl) tm_nil))))) hp_nil, k14 _ (hv.beg _)⟩, fun _ => ⟨fun _ => ?_, fun _ => ?_⟩⟩⟩
  · exact ⟨(by first | omega | decide | (unfold I64; omega)), (by first | omega | decide | (unfold I64; omega)), (by first | omega | decide | (unfold I64; omega)), (by first | omega | decide | (unfold I64; omega)), (done_fun false hv _ _ (nrep _)).sim ⟨sm_same rfl, sm_same rfl, sm_same rfl, .inr (sm_rpN _), trivial⟩ trivial, S_l14 ex l c _ i, ent_of [] rfl (tm_cons rfl (sm_same rfl) (tm_cons rfl (sm_same rfl) (tm_cons rfl (sm_same rfl) (tm_cons rfl (sm_same rfl) (tm_cons rfl (sm_same rfl) tm_nil))))) hp_nil, k14 _ (hv.done _ _ (nrep_ok _))⟩
  · exact ⟨endS_fun false hv _, S_l14 ex l c _ i, ent_of [] rfl (tm_cons rfl (sm_same rfl) (tm_cons rfl (sm_same rfl) (tm_cons rfl (sm_same rfl) (tm_cons rfl (sm_same rfl) (tm_cons rfl (sm_same rfl) tm_nil))))) hp_nil, k14 _ (hv.fin _)⟩
theorem ssl_law {x0 x1 : AV} (h0 : Typed C.tt 6 45 x0) (h1 : Typed C.tt 6 5 x1) : Fun C P F_ssl [x0, x1] [] (.sb true) [] := by
  obtain ⟨l, ex, _, _, s0⟩ := typed_tris h0
  obtain ⟨c, rfl, hc⟩ := typed_u8 rfl h1
  exact (ssl_fun ex l hc).sim ⟨s0, sm_same rfl, trivial⟩ trivial
end Go.Bu.W

