/- SessionMatchesReference. -/
import Derived.Test.YtaabgmjgldinpaaK16
namespace Go.Bu.W
def w_ssm : Way := wayK [0, 1, 2, 4, 6, 7, 8, 9, 10, 11, 12, 13, 14, 18, 34, 55] 148 [5,8,9,11,13,14]
def S_m5 (l : List Ses) (x : Int × Int) (c : Int) : St := { tm := [(2, .v (.int .u8 c)), (4, .ptr 4 []), (7, .sb true), (8, dSe false l)], hp := [(4, .c (iiA x))], seen := [4] }
def S_m8 (l : List Ses) (x : Int × Int) (c who : Int) : St := { tm := [(2, .v (.int .u8 c)), (4, .ptr 4 []), (7, .sb true), (8, dSe false l), (9, .i who), (10, .ptr 10 [])], hp := [(4, .c (iiA x)), (10, .c (rpN x.2))], seen := [4, 10] }
def S_m9 (l : List Ses) (x : Int × Int) (c who seq : Int) (z : Int) : St := { tm := [(2, .v (.int .u8 c)), (4, .ptr 4 []), (7, .sb true), (8, dSe false l), (9, .i who), (10, .ptr 10 []), (11, .i seq), (12, .i z)], hp := [(4, .c (iiA x)), (10, .c (rpN x.2))], seen := [4, 10] }
def S_m11 (l : List Ses) (x : Int × Int) (c who seq : Int) : St := { tm := [(2, .v (.int .u8 c)), (4, .ptr 4 []), (7, .sb true), (8, dSe false l), (9, .i who), (10, .ptr 10 []), (11, .i seq)], hp := [(4, .c (iiA x)), (10, .c (rpN x.2))], seen := [4, 10] }
def S_mm13 (l m : List Ses) (x : Int × Int) (who seq : Int) : St := { tm := [(4, .ptr 4 []), (7, .sb true), (8, dSe false l), (9, .i who), (10, .ptr 10 []), (11, .i seq), (13, dSe false m)], hp := [(4, .c (iiA x)), (10, .c (rpN x.2))], seen := [4, 10] }
def S_mm14 (l m : List Ses) : St := { tm := [(7, .sb true), (8, dSe false l), (13, dSe false m), (14, .sb true)], hp := [], seen := [] }

theorem ssm_A (ex : Bool) (l : List Tri) (x : Int × Int) (c : Int) (K : Nat) (Φ : Ex → St → Prop) :
  (Holds C P 148 [] K Φ (vc C w_ssm b_ssm [] (start [dTri ex l, iiA x, .v (.int .u8 c)] []) lf)) =
  (Fun W.C W.P 10 [] [] (AV.sb true) [] ∧
 (True ∧
 (((decide ((((List.length l) : Nat) : Int) > (20 : Int))) = true →
 (Φ Ex.ret (St.mk [(0, (W.dTri ex l)), (1, (AV.arr 2 1 (fun (j : Nat) => (AV.i (W.ii x j))))), (2, (AV.v (Value.int IntKind.u8 c))), (4, (AV.ptr 4 [])), (6, (AV.sb true)), (7, (AV.sb true)), (18, (AV.v (Value.bool true)))] [(4, (Blk.c (AV.arr 2 1 (fun (j : Nat) => (AV.i (W.ii x j))))))] [4]))) ∧
 ((decide ((((List.length l) : Nat) : Int) > (20 : Int))) = false →
 (Fun W.C W.P 15 [(W.dTri ex l)] [] (W.dSe false (W.madeS (W.toL W.toTri (W.dTri ex l)))) [] ∧
  (∃ (S2 : St), Ent W.C 148 ([] : List Deferred) K (St.mk [(0, (W.dTri ex l)), (1, (AV.arr 2 1 (fun (j : Nat) => (AV.i (W.ii x j))))), (2, (AV.v (Value.int IntKind.u8 c))), (4, (AV.ptr 4 [])), (6, (AV.v (Value.bool false))), (7, (AV.sb true)), (8, (W.dSe false (W.madeS (W.toL W.toTri (W.dTri ex l))))), (18, (AV.v (Value.bool false)))] [(4, (Blk.c (AV.arr 2 1 (fun (j : Nat) => (AV.i (W.ii x j))))))] [4]) S2 ∧ Holds W.C W.P 148 ([] : List Deferred) K Φ (cutAt W.C w_ssm b_ssm [1, 1, 1, 1, 0] S2 (after W.C w_ssm b_ssm [1, 1, 1, 1, 0] [] lf)))))))) := by kernel_rfl
theorem ssm_C5 (l : List Ses) (x : Int × Int) (c : Int) (K : Nat) (Φ : Ex → St → Prop) :
  (Holds C P 148 [] K Φ (cutAt C w_ssm b_ssm [1, 1, 1, 1, 0] (S_m5 l x c) (after C w_ssm b_ssm [1, 1, 1, 1, 0] [] lf))) =
  (((12 : Int) ≠ (0 : Int)) ∧
 ((I64 (Int.tmod c (12 : Int))) ∧
 ((((0 : Int) ≤ (1 : Int)) ∧ ((1 : Int) < (2 : Int))) ∧
 ((W.ShR) ∧
 (((decide ((((List.length l) : Nat) : Int) > (0 : Int))) = true →
 (((decide (c > (100 : Int))) = true →
  ((I64 c) ∧
   (((((List.length l) : Nat) : Int) ≠ (0 : Int)) ∧
   ((((0 : Int) ≤ (Int.tmod c (((List.length l) : Nat) : Int))) ∧ ((Int.tmod c (((List.length l) : Nat) : Int)) < (((List.length l) : Nat) : Int))) ∧
   (∃ (S2 : St), Ent W.C 148 ([] : List Deferred) K (St.mk [(2, (AV.v (Value.int IntKind.u8 c))), (4, (AV.ptr 4 [])), (7, (AV.sb true)), (8, (W.dSe false l)), (9, (AV.i (W.Ses.who (W.seAt l (Int.toNat (Int.tmod c (((List.length l) : Nat) : Int))))))), (10, (AV.ptr 10 [])), (34, (AV.v (Value.bool true)))] [(4, (Blk.c (AV.arr 2 1 (fun (j : Nat) => (AV.i (W.ii x j)))))), (10, (Blk.c (W.rpN (W.ii x 1))))] [10, 4]) S2 ∧ Holds W.C W.P 148 ([] : List Deferred) K Φ (cutAt W.C w_ssm b_ssm [1, 1, 1, 1, 1, 1, 0] S2 (after W.C w_ssm b_ssm [1, 1, 1, 1, 1, 1, 0] [] lf))))))) ∧
  ((decide (c > (100 : Int))) = false →
  (∃ (S2 : St), Ent W.C 148 ([] : List Deferred) K (St.mk [(2, (AV.v (Value.int IntKind.u8 c))), (4, (AV.ptr 4 [])), (7, (AV.sb true)), (8, (W.dSe false l)), (9, (AV.i (Int.tmod c (12 : Int)))), (10, (AV.ptr 10 [])), (34, (AV.v (Value.bool false)))] [(4, (Blk.c (AV.arr 2 1 (fun (j : Nat) => (AV.i (W.ii x j)))))), (10, (Blk.c (W.rpN (W.ii x 1))))] [10, 4]) S2 ∧ Holds W.C W.P 148 ([] : List Deferred) K Φ (cutAt W.C w_ssm b_ssm [1, 1, 1, 1, 1, 1, 0] S2 (after W.C w_ssm b_ssm [1, 1, 1, 1, 1, 1, 0] [] lf)))))) ∧
 ((decide ((((List.length l) : Nat) : Int) > (0 : Int))) = false →
 (∃ (S2 : St), Ent W.C 148 ([] : List Deferred) K (St.mk [(2, (AV.v (Value.int IntKind.u8 c))), (4, (AV.ptr 4 [])), (7, (AV.sb true)), (8, (W.dSe false l)), (9, (AV.i (Int.tmod c (12 : Int)))), (10, (AV.ptr 10 [])), (34, (AV.v (Value.bool false)))] [(4, (Blk.c (AV.arr 2 1 (fun (j : Nat) => (AV.i (W.ii x j)))))), (10, (Blk.c (W.rpN (W.ii x 1))))] [10, 4]) S2 ∧ Holds W.C W.P 148 ([] : List Deferred) K Φ (cutAt W.C w_ssm b_ssm [1, 1, 1, 1, 1, 1, 0] S2 (after W.C w_ssm b_ssm [1, 1, 1, 1, 1, 1, 0] [] lf))))))))) := by kernel_rfl
theorem ssm_C8 (l : List Ses) (x : Int × Int) (c who : Int) (K : Nat) (Φ : Ex → St → Prop) :
  (Holds C P 148 [] K Φ (cutAt C w_ssm b_ssm [1, 1, 1, 1, 1, 1, 0] (S_m8 l x c who) (after C w_ssm b_ssm [1, 1, 1, 1, 1, 1, 0] [] lf))) =
  ((((0 : Int) ≤ (0 : Int)) ∧ ((0 : Int) < (2 : Int))) ∧
 (Fun W.C W.P 18 [(W.dSe false l), (AV.i who)] [] (AV.i (W.rfI (W.toLS (W.dSe false l)) who)) [] ∧
 (True ∧
 (∃ (S2 : St), Ent W.C 148 ([] : List Deferred) K (St.mk [(2, (AV.v (Value.int IntKind.u8 c))), (4, (AV.ptr 4 [])), (7, (AV.sb true)), (8, (W.dSe false l)), (9, (AV.i who)), (10, (AV.ptr 10 [])), (11, (AV.i (W.ii x 0))), (12, (AV.i (W.rfI (W.toLS (W.dSe false l)) who)))] [(4, (Blk.c (AV.arr 2 1 (fun (j : Nat) => (AV.i (W.ii x j)))))), (10, (Blk.c (W.rpN (Prod.snd x))))] [4, 10]) S2 ∧ Holds W.C W.P 148 ([] : List Deferred) K Φ (cutAt W.C w_ssm b_ssm [1, 1, 1, 1, 1, 1, 1, 0, 0] S2 (after W.C w_ssm b_ssm [1, 1, 1, 1, 1, 1, 1, 0, 0] [] lf)))))) := by kernel_rfl
theorem ssm_C9 (l : List Ses) (x : Int × Int) (c who seq z : Int) (K : Nat) (Φ : Ex → St → Prop) :
  (Holds C P 148 [] K Φ (cutAt C w_ssm b_ssm [1, 1, 1, 1, 1, 1, 1, 0, 0] (S_m9 l x c who seq z) (after C w_ssm b_ssm [1, 1, 1, 1, 1, 1, 1, 0, 0] [] lf))) =
  (((decide (z ≥ (0 : Int))) = true →
 (((2 : Int) ≠ (0 : Int)) ∧
  ((((Int.tmod c (2 : Int)) == (0 : Int)) = true →
  ((((0 : Int) ≤ z) ∧ (z < (((List.length l) : Nat) : Int))) ∧
   (((2 : Int) ≠ (0 : Int)) ∧
   ((I64 (IntKind.wrap IntKind.u8 (Int.tdiv c (2 : Int)))) ∧
   (((4 : Int) ≠ (0 : Int)) ∧
   ((I64 ((W.Ses.seq (W.seAt l (Int.toNat z))) + (Int.tmod (IntKind.wrap IntKind.u8 (Int.tdiv c (2 : Int))) (4 : Int)))) ∧
   ((I64 (((W.Ses.seq (W.seAt l (Int.toNat z))) + (Int.tmod (IntKind.wrap IntKind.u8 (Int.tdiv c (2 : Int))) (4 : Int))) - (1 : Int))) ∧
   (∃ (S2 : St), Ent W.C 148 ([] : List Deferred) K (St.mk [(2, (AV.v (Value.int IntKind.u8 c))), (4, (AV.ptr 4 [])), (7, (AV.sb true)), (8, (W.dSe false l)), (9, (AV.i who)), (10, (AV.ptr 10 [])), (11, (AV.i (((W.Ses.seq (W.seAt l (Int.toNat z))) + (Int.tmod (IntKind.wrap IntKind.u8 (Int.tdiv c (2 : Int))) (4 : Int))) - (1 : Int)))), (12, (AV.i z)), (55, (AV.v (Value.bool true)))] [(4, (Blk.c (AV.arr 2 1 (fun (j : Nat) => (AV.i (W.ii x j)))))), (10, (Blk.c (W.rpN (Prod.snd x))))] [4, 10]) S2 ∧ Holds W.C W.P 148 ([] : List Deferred) K Φ (cutAt W.C w_ssm b_ssm [1, 1, 1, 1, 1, 1, 1, 1, 0] S2 (after W.C w_ssm b_ssm [1, 1, 1, 1, 1, 1, 1, 1, 0] [] lf)))))))))) ∧
  (((Int.tmod c (2 : Int)) == (0 : Int)) = false →
  (∃ (S2 : St), Ent W.C 148 ([] : List Deferred) K (St.mk [(2, (AV.v (Value.int IntKind.u8 c))), (4, (AV.ptr 4 [])), (7, (AV.sb true)), (8, (W.dSe false l)), (9, (AV.i who)), (10, (AV.ptr 10 [])), (11, (AV.i seq)), (12, (AV.i z)), (55, (AV.v (Value.bool false)))] [(4, (Blk.c (AV.arr 2 1 (fun (j : Nat) => (AV.i (W.ii x j)))))), (10, (Blk.c (W.rpN (Prod.snd x))))] [4, 10]) S2 ∧ Holds W.C W.P 148 ([] : List Deferred) K Φ (cutAt W.C w_ssm b_ssm [1, 1, 1, 1, 1, 1, 1, 1, 0] S2 (after W.C w_ssm b_ssm [1, 1, 1, 1, 1, 1, 1, 1, 0] [] lf))))))) ∧
 ((decide (z ≥ (0 : Int))) = false →
 (∃ (S2 : St), Ent W.C 148 ([] : List Deferred) K (St.mk [(2, (AV.v (Value.int IntKind.u8 c))), (4, (AV.ptr 4 [])), (7, (AV.sb true)), (8, (W.dSe false l)), (9, (AV.i who)), (10, (AV.ptr 10 [])), (11, (AV.i seq)), (12, (AV.i z)), (55, (AV.v (Value.bool false)))] [(4, (Blk.c (AV.arr 2 1 (fun (j : Nat) => (AV.i (W.ii x j)))))), (10, (Blk.c (W.rpN (Prod.snd x))))] [4, 10]) S2 ∧ Holds W.C W.P 148 ([] : List Deferred) K Φ (cutAt W.C w_ssm b_ssm [1, 1, 1, 1, 1, 1, 1, 1, 0] S2 (after W.C w_ssm b_ssm [1, 1, 1, 1, 1, 1, 1, 1, 0] [] lf))))) := by kernel_rfl
theorem ssm_C9k (l : List Ses) (x : Int × Int) (c who seq : Int) (k : Nat) (K : Nat) (Φ : Ex → St → Prop) :
  (Holds C P 148 [] K Φ (cutAt C w_ssm b_ssm [1, 1, 1, 1, 1, 1, 1, 0, 0] (S_m9 l x c who seq k) (after C w_ssm b_ssm [1, 1, 1, 1, 1, 1, 1, 0, 0] [] lf))) =
  (((decide (((k : Nat) : Int) ≥ (0 : Int))) = true →
 (((2 : Int) ≠ (0 : Int)) ∧
  ((((Int.tmod c (2 : Int)) == (0 : Int)) = true →
  ((((0 : Int) ≤ ((k : Nat) : Int)) ∧ (((k : Nat) : Int) < (((List.length l) : Nat) : Int))) ∧
   (((2 : Int) ≠ (0 : Int)) ∧
   ((I64 (IntKind.wrap IntKind.u8 (Int.tdiv c (2 : Int)))) ∧
   (((4 : Int) ≠ (0 : Int)) ∧
   ((I64 ((W.Ses.seq (W.seAt l k)) + (Int.tmod (IntKind.wrap IntKind.u8 (Int.tdiv c (2 : Int))) (4 : Int)))) ∧
   ((I64 (((W.Ses.seq (W.seAt l k)) + (Int.tmod (IntKind.wrap IntKind.u8 (Int.tdiv c (2 : Int))) (4 : Int))) - (1 : Int))) ∧
   (∃ (S2 : St), Ent W.C 148 ([] : List Deferred) K (St.mk [(2, (AV.v (Value.int IntKind.u8 c))), (4, (AV.ptr 4 [])), (7, (AV.sb true)), (8, (W.dSe false l)), (9, (AV.i who)), (10, (AV.ptr 10 [])), (11, (AV.i (((W.Ses.seq (W.seAt l k)) + (Int.tmod (IntKind.wrap IntKind.u8 (Int.tdiv c (2 : Int))) (4 : Int))) - (1 : Int)))), (12, (AV.i ((k : Nat) : Int))), (55, (AV.v (Value.bool true)))] [(4, (Blk.c (AV.arr 2 1 (fun (j : Nat) => (AV.i (W.ii x j)))))), (10, (Blk.c (W.rpN (Prod.snd x))))] [4, 10]) S2 ∧ Holds W.C W.P 148 ([] : List Deferred) K Φ (cutAt W.C w_ssm b_ssm [1, 1, 1, 1, 1, 1, 1, 1, 0] S2 (after W.C w_ssm b_ssm [1, 1, 1, 1, 1, 1, 1, 1, 0] [] lf)))))))))) ∧
  (((Int.tmod c (2 : Int)) == (0 : Int)) = false →
  (∃ (S2 : St), Ent W.C 148 ([] : List Deferred) K (St.mk [(2, (AV.v (Value.int IntKind.u8 c))), (4, (AV.ptr 4 [])), (7, (AV.sb true)), (8, (W.dSe false l)), (9, (AV.i who)), (10, (AV.ptr 10 [])), (11, (AV.i seq)), (12, (AV.i ((k : Nat) : Int))), (55, (AV.v (Value.bool false)))] [(4, (Blk.c (AV.arr 2 1 (fun (j : Nat) => (AV.i (W.ii x j)))))), (10, (Blk.c (W.rpN (Prod.snd x))))] [4, 10]) S2 ∧ Holds W.C W.P 148 ([] : List Deferred) K Φ (cutAt W.C w_ssm b_ssm [1, 1, 1, 1, 1, 1, 1, 1, 0] S2 (after W.C w_ssm b_ssm [1, 1, 1, 1, 1, 1, 1, 1, 0] [] lf))))))) ∧
 ((decide (((k : Nat) : Int) ≥ (0 : Int))) = false →
 (∃ (S2 : St), Ent W.C 148 ([] : List Deferred) K (St.mk [(2, (AV.v (Value.int IntKind.u8 c))), (4, (AV.ptr 4 [])), (7, (AV.sb true)), (8, (W.dSe false l)), (9, (AV.i who)), (10, (AV.ptr 10 [])), (11, (AV.i seq)), (12, (AV.i ((k : Nat) : Int))), (55, (AV.v (Value.bool false)))] [(4, (Blk.c (AV.arr 2 1 (fun (j : Nat) => (AV.i (W.ii x j)))))), (10, (Blk.c (W.rpN (Prod.snd x))))] [4, 10]) S2 ∧ Holds W.C W.P 148 ([] : List Deferred) K Φ (cutAt W.C w_ssm b_ssm [1, 1, 1, 1, 1, 1, 1, 1, 0] S2 (after W.C w_ssm b_ssm [1, 1, 1, 1, 1, 1, 1, 1, 0] [] lf))))) := by kernel_rfl
theorem ssm_C11 (l : List Ses) (x : Int × Int) (c who seq : Int) (K : Nat) (Φ : Ex → St → Prop) :
  (Holds C P 148 [] K Φ (cutAt C w_ssm b_ssm [1, 1, 1, 1, 1, 1, 1, 1, 0] (S_m11 l x c who seq) (after C w_ssm b_ssm [1, 1, 1, 1, 1, 1, 1, 1, 0] [] lf))) =
  ((0 = 0) ∧
 (((0 = 0) ∨ (0 < (List.length l))) ∧
 ((((0 + (List.length l)) * 192) ≤ 140737488355328) ∧
 ((((0 : Int) ≤ (0 : Int)) ∧ ((0 : Int) < (2 : Int))) ∧
 ((((0 : Int) ≤ (1 : Int)) ∧ ((1 : Int) < (2 : Int))) ∧
 (((2 : Int) ≠ (0 : Int)) ∧
 ((I64 (Int.tmod c (2 : Int))) ∧
 (((((0 + (List.length l)) + 1) * 192) ≤ 140737488355328) ∧
 (∃ (S2 : St), Ent W.C 148 ([] : List Deferred) K (St.mk [(2, (AV.v (Value.int IntKind.u8 c))), (4, (AV.ptr 4 [])), (7, (AV.sb true)), (8, (W.dSe false l)), (9, (AV.i who)), (10, (AV.ptr 10 [])), (11, (AV.i seq)), (13, (AV.sl 81 [] 0 ((0 + (List.length l)) + 1) ((0 + (List.length l)) + 1) false 14))] [(4, (Blk.c (AV.arr 2 1 (fun (j : Nat) => (AV.i (W.ii x j)))))), (10, (Blk.c (W.rpN (Prod.snd x)))), (67, (Blk.c (AV.st []))), (80, (Blk.c (AV.st [(AV.st [(AV.i (W.ii x 0)), (AV.i (W.ii x 1)), (W.rpN (Int.tmod c (2 : Int)))])]))), (81, (Blk.c (AV.arr ((0 + (List.length l)) + 1) 14 (cat (0 + (List.length l)) (fun (i : Nat) => (W.seA (W.seAt l (0 + i)))) (fun (i : Nat) => (nthD [(AV.st [(AV.i (W.ii x 0)), (AV.i (W.ii x 1)), (W.rpN (Int.tmod c (2 : Int)))])] (0 + i) (AV.v (Value.tuple (List.toArray [])))))))))] [81, 80, 69, 67, 4, 10]) S2 ∧ Holds W.C W.P 148 ([] : List Deferred) K Φ (cutAt W.C w_ssm b_ssm [1, 1, 1, 1, 1, 1, 1, 1, 1, 1, 0] S2 (after W.C w_ssm b_ssm [1, 1, 1, 1, 1, 1, 1, 1, 1, 1, 0] [] lf))))))))))) := by kernel_rfl
theorem ssm_C13 (l m : List Ses) (x : Int × Int) (who seq : Int) (K : Nat) (Φ : Ex → St → Prop) :
  (Holds C P 148 [] K Φ (cutAt C w_ssm b_ssm [1, 1, 1, 1, 1, 1, 1, 1, 1, 1, 0] (S_mm13 l m x who seq) (after C w_ssm b_ssm [1, 1, 1, 1, 1, 1, 1, 1, 1, 1, 0] [] lf))) =
  (Fun W.C W.P 11 [(W.dSe false l), (AV.i who)] [] (W.ltA (W.begL (W.toLS (W.dSe false l)) who) (W.begE (W.toLS (W.dSe false l)) who)) [] ∧
 (Fun W.C W.P 20 [(W.dSe false l), (AV.i who)] [] (W.ltA (W.begL (W.toLS (W.dSe false l)) who) (W.begE (W.toLS (W.dSe false l)) who)) [] ∧
 (Fun W.C W.P 19 [(W.ltA (W.begL (W.toLS (W.dSe false l)) who) (W.begE (W.toLS (W.dSe false l)) who)), (W.ltA (W.begL (W.toLS (W.dSe false l)) who) (W.begE (W.toLS (W.dSe false l)) who))] [] (AV.sb (W.eqLt ((W.toLS (W.dSe false (W.begL (W.toLS (W.dSe false l)) who))), (W.begE (W.toLS (W.dSe false l)) who)) ((W.toLS (W.dSe false (W.begL (W.toLS (W.dSe false l)) who))), (W.begE (W.toLS (W.dSe false l)) who)))) [] ∧
 (True ∧
 (((W.eqLt ((W.toLS (W.dSe false (W.begL (W.toLS (W.dSe false l)) who))), (W.begE (W.toLS (W.dSe false l)) who)) ((W.toLS (W.dSe false (W.begL (W.toLS (W.dSe false l)) who))), (W.begE (W.toLS (W.dSe false l)) who))) = true →
 ((((0 : Int) ≤ (0 : Int)) ∧ ((0 : Int) < (2 : Int))) ∧
  (Fun W.C W.P 11 [(W.dSe false l), (AV.i (W.ii x 0))] [] (W.ltA (W.begL (W.toLS (W.dSe false l)) (W.ii x 0)) (W.begE (W.toLS (W.dSe false l)) (W.ii x 0))) [] ∧
  ((((0 : Int) ≤ (0 : Int)) ∧ ((0 : Int) < (2 : Int))) ∧
  (Fun W.C W.P 20 [(W.dSe false l), (AV.i (W.ii x 0))] [] (W.ltA (W.begL (W.toLS (W.dSe false l)) (W.ii x 0)) (W.begE (W.toLS (W.dSe false l)) (W.ii x 0))) [] ∧
  (Fun W.C W.P 19 [(W.ltA (W.begL (W.toLS (W.dSe false l)) (W.ii x 0)) (W.begE (W.toLS (W.dSe false l)) (W.ii x 0))), (W.ltA (W.begL (W.toLS (W.dSe false l)) (W.ii x 0)) (W.begE (W.toLS (W.dSe false l)) (W.ii x 0)))] [] (AV.sb (W.eqLt ((W.toLS (W.dSe false (W.begL (W.toLS (W.dSe false l)) (W.ii x 0)))), (W.begE (W.toLS (W.dSe false l)) (W.ii x 0))) ((W.toLS (W.dSe false (W.begL (W.toLS (W.dSe false l)) (W.ii x 0)))), (W.begE (W.toLS (W.dSe false l)) (W.ii x 0))))) [] ∧
  (True ∧
  (((W.eqLt ((W.toLS (W.dSe false (W.begL (W.toLS (W.dSe false l)) (W.ii x 0)))), (W.begE (W.toLS (W.dSe false l)) (W.ii x 0))) ((W.toLS (W.dSe false (W.begL (W.toLS (W.dSe false l)) (W.ii x 0)))), (W.begE (W.toLS (W.dSe false l)) (W.ii x 0)))) = true →
  (Fun W.C W.P 13 [(W.dSe false l), (AV.i who), (AV.i seq)] [] (W.lkA (W.seenR (W.toLS (W.dSe false l)) who seq) (W.seenB (W.toLS (W.dSe false l)) who seq) (W.seenE (W.toLS (W.dSe false l)) who seq)) [] ∧
   (Fun W.C W.P 21 [(W.dSe false l), (AV.i who), (AV.i seq)] [] (W.lkA (W.seenR (W.toLS (W.dSe false l)) who seq) (W.seenB (W.toLS (W.dSe false l)) who seq) (W.seenE (W.toLS (W.dSe false l)) who seq)) [] ∧
   (Fun W.C W.P 16 [(W.lkA (W.seenR (W.toLS (W.dSe false l)) who seq) (W.seenB (W.toLS (W.dSe false l)) who seq) (W.seenE (W.toLS (W.dSe false l)) who seq)), (W.lkA (W.seenR (W.toLS (W.dSe false l)) who seq) (W.seenB (W.toLS (W.dSe false l)) who seq) (W.seenE (W.toLS (W.dSe false l)) who seq))] [] (AV.sb (W.eqLk ((W.toRp (W.rpA (W.seenR (W.toLS (W.dSe false l)) who seq))), ((asB (AV.sb (W.seenB (W.toLS (W.dSe false l)) who seq))), (W.seenE (W.toLS (W.dSe false l)) who seq))) ((W.toRp (W.rpA (W.seenR (W.toLS (W.dSe false l)) who seq))), ((asB (AV.sb (W.seenB (W.toLS (W.dSe false l)) who seq))), (W.seenE (W.toLS (W.dSe false l)) who seq))))) [] ∧
   (True ∧
   (((W.eqLk ((W.toRp (W.rpA (W.seenR (W.toLS (W.dSe false l)) who seq))), ((asB (AV.sb (W.seenB (W.toLS (W.dSe false l)) who seq))), (W.seenE (W.toLS (W.dSe false l)) who seq))) ((W.toRp (W.rpA (W.seenR (W.toLS (W.dSe false l)) who seq))), ((asB (AV.sb (W.seenB (W.toLS (W.dSe false l)) who seq))), (W.seenE (W.toLS (W.dSe false l)) who seq)))) = true →
   (Fun W.C W.P 14 [(W.dSe false l), (AV.i who), (AV.i seq), (W.rpN (Prod.snd x))] [] (W.ltA (W.doneL (W.toLS (W.dSe false l)) who seq (W.nrep (Prod.snd x))) (W.doneE (W.toLS (W.dSe false l)) who seq)) [] ∧
    (Fun W.C W.P 22 [(W.dSe false l), (AV.i who), (AV.i seq), (W.rpN (Prod.snd x))] [] (W.ltA (W.doneL (W.toLS (W.dSe false l)) who seq (W.nrep (Prod.snd x))) (W.doneE (W.toLS (W.dSe false l)) who seq)) [] ∧
    (Fun W.C W.P 19 [(W.ltA (W.doneL (W.toLS (W.dSe false l)) who seq (W.nrep (Prod.snd x))) (W.doneE (W.toLS (W.dSe false l)) who seq)), (W.ltA (W.doneL (W.toLS (W.dSe false l)) who seq (W.nrep (Prod.snd x))) (W.doneE (W.toLS (W.dSe false l)) who seq))] [] (AV.sb (W.eqLt ((W.toLS (W.dSe false (W.doneL (W.toLS (W.dSe false l)) who seq (W.nrep (Prod.snd x))))), (W.doneE (W.toLS (W.dSe false l)) who seq)) ((W.toLS (W.dSe false (W.doneL (W.toLS (W.dSe false l)) who seq (W.nrep (Prod.snd x))))), (W.doneE (W.toLS (W.dSe false l)) who seq)))) [] ∧
    (True ∧
    (((W.eqLt ((W.toLS (W.dSe false (W.doneL (W.toLS (W.dSe false l)) who seq (W.nrep (Prod.snd x))))), (W.doneE (W.toLS (W.dSe false l)) who seq)) ((W.toLS (W.dSe false (W.doneL (W.toLS (W.dSe false l)) who seq (W.nrep (Prod.snd x))))), (W.doneE (W.toLS (W.dSe false l)) who seq))) = true →
    (Fun W.C W.P 23 [(W.dSe false l), (AV.i who)] [] (W.ltA (W.endL (W.toLS (W.dSe false l)) who) (W.endE (W.toLS (W.dSe false l)) who)) [] ∧
     (Fun W.C W.P 24 [(W.dSe false l), (AV.i who)] [] (W.ltA (W.endL (W.toLS (W.dSe false l)) who) (W.endE (W.toLS (W.dSe false l)) who)) [] ∧
     (Fun W.C W.P 19 [(W.ltA (W.endL (W.toLS (W.dSe false l)) who) (W.endE (W.toLS (W.dSe false l)) who)), (W.ltA (W.endL (W.toLS (W.dSe false l)) who) (W.endE (W.toLS (W.dSe false l)) who))] [] (AV.sb (W.eqLt ((W.toLS (W.dSe false (W.endL (W.toLS (W.dSe false l)) who))), (W.endE (W.toLS (W.dSe false l)) who)) ((W.toLS (W.dSe false (W.endL (W.toLS (W.dSe false l)) who))), (W.endE (W.toLS (W.dSe false l)) who)))) [] ∧
     (True ∧
     (∃ (S2 : St), Ent W.C 148 ([] : List Deferred) K (St.mk [(4, (AV.ptr 4 [])), (7, (AV.sb true)), (8, (W.dSe false l)), (9, (AV.i who)), (10, (AV.ptr 10 [])), (11, (AV.i seq)), (13, (W.dSe false m)), (14, (AV.sb (W.eqLt ((W.toLS (W.dSe false (W.endL (W.toLS (W.dSe false l)) who))), (W.endE (W.toLS (W.dSe false l)) who)) ((W.toLS (W.dSe false (W.endL (W.toLS (W.dSe false l)) who))), (W.endE (W.toLS (W.dSe false l)) who)))))] [(4, (Blk.c (AV.arr 2 1 (fun (j : Nat) => (AV.i (W.ii x j)))))), (10, (Blk.c (W.rpN (Prod.snd x))))] [4, 10]) S2 ∧ Holds W.C W.P 148 ([] : List Deferred) K Φ (cutAt W.C w_ssm b_ssm [1, 1, 1, 1, 1, 1, 1, 1, 1, 1, 1, 0] S2 (after W.C w_ssm b_ssm [1, 1, 1, 1, 1, 1, 1, 1, 1, 1, 1, 0] [] lf)))))))) ∧
    ((W.eqLt ((W.toLS (W.dSe false (W.doneL (W.toLS (W.dSe false l)) who seq (W.nrep (Prod.snd x))))), (W.doneE (W.toLS (W.dSe false l)) who seq)) ((W.toLS (W.dSe false (W.doneL (W.toLS (W.dSe false l)) who seq (W.nrep (Prod.snd x))))), (W.doneE (W.toLS (W.dSe false l)) who seq))) = false →
    (∃ (S2 : St), Ent W.C 148 ([] : List Deferred) K (St.mk [(4, (AV.ptr 4 [])), (7, (AV.sb true)), (8, (W.dSe false l)), (9, (AV.i who)), (10, (AV.ptr 10 [])), (11, (AV.i seq)), (13, (W.dSe false m)), (14, (AV.v (Value.bool false)))] [(4, (Blk.c (AV.arr 2 1 (fun (j : Nat) => (AV.i (W.ii x j)))))), (10, (Blk.c (W.rpN (Prod.snd x))))] [4, 10]) S2 ∧ Holds W.C W.P 148 ([] : List Deferred) K Φ (cutAt W.C w_ssm b_ssm [1, 1, 1, 1, 1, 1, 1, 1, 1, 1, 1, 0] S2 (after W.C w_ssm b_ssm [1, 1, 1, 1, 1, 1, 1, 1, 1, 1, 1, 0] [] lf)))))))))) ∧
   ((W.eqLk ((W.toRp (W.rpA (W.seenR (W.toLS (W.dSe false l)) who seq))), ((asB (AV.sb (W.seenB (W.toLS (W.dSe false l)) who seq))), (W.seenE (W.toLS (W.dSe false l)) who seq))) ((W.toRp (W.rpA (W.seenR (W.toLS (W.dSe false l)) who seq))), ((asB (AV.sb (W.seenB (W.toLS (W.dSe false l)) who seq))), (W.seenE (W.toLS (W.dSe false l)) who seq)))) = false →
   (∃ (S2 : St), Ent W.C 148 ([] : List Deferred) K (St.mk [(4, (AV.ptr 4 [])), (7, (AV.sb true)), (8, (W.dSe false l)), (9, (AV.i who)), (10, (AV.ptr 10 [])), (11, (AV.i seq)), (13, (W.dSe false m)), (14, (AV.v (Value.bool false)))] [(4, (Blk.c (AV.arr 2 1 (fun (j : Nat) => (AV.i (W.ii x j)))))), (10, (Blk.c (W.rpN (Prod.snd x))))] [4, 10]) S2 ∧ Holds W.C W.P 148 ([] : List Deferred) K Φ (cutAt W.C w_ssm b_ssm [1, 1, 1, 1, 1, 1, 1, 1, 1, 1, 1, 0] S2 (after W.C w_ssm b_ssm [1, 1, 1, 1, 1, 1, 1, 1, 1, 1, 1, 0] [] lf)))))))))) ∧
  ((W.eqLt ((W.toLS (W.dSe false (W.begL (W.toLS (W.dSe false l)) (W.ii x 0)))), (W.begE (W.toLS (W.dSe false l)) (W.ii x 0))) ((W.toLS (W.dSe false (W.begL (W.toLS (W.dSe false l)) (W.ii x 0)))), (W.begE (W.toLS (W.dSe false l)) (W.ii x 0)))) = false →
  (∃ (S2 : St), Ent W.C 148 ([] : List Deferred) K (St.mk [(4, (AV.ptr 4 [])), (7, (AV.sb true)), (8, (W.dSe false l)), (9, (AV.i who)), (10, (AV.ptr 10 [])), (11, (AV.i seq)), (13, (W.dSe false m)), (14, (AV.v (Value.bool false)))] [(4, (Blk.c (AV.arr 2 1 (fun (j : Nat) => (AV.i (W.ii x j)))))), (10, (Blk.c (W.rpN (Prod.snd x))))] [4, 10]) S2 ∧ Holds W.C W.P 148 ([] : List Deferred) K Φ (cutAt W.C w_ssm b_ssm [1, 1, 1, 1, 1, 1, 1, 1, 1, 1, 1, 0] S2 (after W.C w_ssm b_ssm [1, 1, 1, 1, 1, 1, 1, 1, 1, 1, 1, 0] [] lf)))))))))))) ∧
 ((W.eqLt ((W.toLS (W.dSe false (W.begL (W.toLS (W.dSe false l)) who))), (W.begE (W.toLS (W.dSe false l)) who)) ((W.toLS (W.dSe false (W.begL (W.toLS (W.dSe false l)) who))), (W.begE (W.toLS (W.dSe false l)) who))) = false →
 (∃ (S2 : St), Ent W.C 148 ([] : List Deferred) K (St.mk [(4, (AV.ptr 4 [])), (7, (AV.sb true)), (8, (W.dSe false l)), (9, (AV.i who)), (10, (AV.ptr 10 [])), (11, (AV.i seq)), (13, (W.dSe false m)), (14, (AV.v (Value.bool false)))] [(4, (Blk.c (AV.arr 2 1 (fun (j : Nat) => (AV.i (W.ii x j)))))), (10, (Blk.c (W.rpN (Prod.snd x))))] [4, 10]) S2 ∧ Holds W.C W.P 148 ([] : List Deferred) K Φ (cutAt W.C w_ssm b_ssm [1, 1, 1, 1, 1, 1, 1, 1, 1, 1, 1, 0] S2 (after W.C w_ssm b_ssm [1, 1, 1, 1, 1, 1, 1, 1, 1, 1, 1, 0] [] lf))))))))) := by kernel_rfl
theorem ssm_C14 (l m : List Ses) (K : Nat) (Φ : Ex → St → Prop) :
  (Holds C P 148 [] K Φ (cutAt C w_ssm b_ssm [1, 1, 1, 1, 1, 1, 1, 1, 1, 1, 1, 0] (S_mm14 l m) (after C w_ssm b_ssm [1, 1, 1, 1, 1, 1, 1, 1, 1, 1, 1, 0] [] lf))) =
  ((true = true →
 (Fun W.C W.P 25 [(W.dSe false l)] [] (AV.sb (W.vB (W.toLS (W.dSe false l)))) [] ∧
  (True ∧
  (((W.vB (W.toLS (W.dSe false l))) = true →
  (Fun W.C W.P 25 [(W.dSe false m)] [] (AV.sb (W.vB (W.toLS (W.dSe false m)))) [] ∧
   (True ∧
   (Fun W.C W.P 12 [(W.dSe false m)] [] (AV.sb (W.vB (W.toLS (W.dSe false m)))) [] ∧
   (True ∧
   ((((W.vB (W.toLS (W.dSe false m))) == (W.vB (W.toLS (W.dSe false m)))) = true →
   (Φ Ex.ret (St.mk [(6, (AV.sb true)), (7, (AV.sb true)), (8, (W.dSe false l)), (13, (W.dSe false m)), (14, (AV.sb true))] [] []))) ∧
   (((W.vB (W.toLS (W.dSe false m))) == (W.vB (W.toLS (W.dSe false m)))) = false →
   (Φ Ex.ret (St.mk [(6, (AV.v (Value.bool false))), (7, (AV.sb true)), (8, (W.dSe false l)), (13, (W.dSe false m)), (14, (AV.sb true))] [] []))))))))) ∧
  ((W.vB (W.toLS (W.dSe false l))) = false →
  (Φ Ex.ret (St.mk [(6, (AV.v (Value.bool false))), (7, (AV.sb true)), (8, (W.dSe false l)), (13, (W.dSe false m)), (14, (AV.sb true))] [] []))))))) ∧
 (true = false →
 (Φ Ex.ret (St.mk [(6, (AV.v (Value.bool false))), (7, (AV.sb true)), (8, (W.dSe false l)), (13, (W.dSe false m)), (14, (AV.sb true))] [] [])))) := by kernel_rfl
theorem ssm_14 {l m : List Ses} (hv : VS l) (hm : ∀ s, s ∈ m → RpOK s.last) (hn : m.length ≤ 9) : Holds C P 148 [] 0 (FunPost C 148 0 [.tmp 6] (.sb true) []) (cutAt C w_ssm b_ssm [1, 1, 1, 1, 1, 1, 1, 1, 1, 1, 1, 0] (S_mm14 l m) (after C w_ssm b_ssm [1, 1, 1, 1, 1, 1, 1, 1, 1, 1, 1, 0] [] lf)) := by
  refine of_eq (ssm_C14 l m 0 _) ?_
  simp only [toSeL]
  rw [hv.vB]
  exact ⟨fun _ => ⟨vld2 hv, trivial, fun _ => ⟨valid_fun false m (by omega) hm, trivial, rvalid_fun false m (by omega) hm, trivial, fun _ => post_tmp rfl (sm_sb rfl), fun h => by simp at h⟩, fun h => (nb_no h).elim⟩, fun h => (nb_no h).elim⟩
theorem ssm_13 {l m : List Ses} (hv : VS l) (hm : ∀ s, s ∈ m → RpOK s.last) (hn : m.length ≤ 9) (x : Int × Int) (who seq : Int) : Holds C P 148 [] 0 (FunPost C 148 0 [.tmp 6] (.sb true) []) (cutAt C w_ssm b_ssm [1, 1, 1, 1, 1, 1, 1, 1, 1, 1, 0] (S_mm13 l m x who seq) (after C w_ssm b_ssm [1, 1, 1, 1, 1, 1, 1, 1, 1, 1, 0] [] lf)) := by
  refine of_eq (ssm_C13 l m x who seq 0 _) ?_
  have a1 : ∀ b, asB (AV.sb b) = b := fun _ => rfl
  simp only [toSeL, toRp_A, a1]
  obtain ⟨w0, hw0⟩ : ∃ w, w = ii x 0 := ⟨_, rfl⟩
  rw [← hw0]
  have q1 := eqLt_r (begL l who, begE l who)
  have q2 := eqLt_r (begL l w0, begE l w0)
  have q3 := eqLk_r (seenR l who seq, seenB l who seq, seenE l who seq)
  have q4 := eqLt_r (doneL l who seq (nrep x.2), doneE l who seq)
  have q5 := eqLt_r (endL l who, endE l who)
  rw [q1, q2, q3, q4, q5]
  have d1 := (done_fun false hv who seq (nrep x.2)).sim (args := [dSe false l, .i who, .i seq, rpN x.2]) (H := []) ⟨sm_same rfl, sm_same rfl, sm_same rfl, .inr (sm_rpN _), trivial⟩ trivial
  have d2 := (rdone_fun false hv who seq (nrep x.2)).sim (args := [dSe false l, .i who, .i seq, rpN x.2]) (H := []) ⟨sm_same rfl, sm_same rfl, sm_same rfl, .inr (sm_rpN _), trivial⟩ trivial
  refine ⟨begin_fun false hv who, rbegin_fun false hv who, sameT_is (hv.beg who) q1, trivial, fun _ => ⟨(by first | omega | decide | (unfold I64; omega)), begin_fun false hv w0, (by first | omega | decide | (unfold I64; omega)), rbegin_fun false hv w0, sameT_is (hv.beg w0) q2, trivial, fun _ => ⟨seen_fun false hv who seq, rseen_fun false hv who seq, sameL_is (seenR_ok hv _ _) q3, trivial, fun _ => ⟨d1, d2, sameT_is (hv.done _ _ (nrep_ok _)) q4, trivial, fun _ => ⟨endS_fun false hv who, rend_fun false hv who, sameT_is (hv.fin who) q5, trivial, ?_⟩, fun h => (nb_no h).elim⟩, fun h => (nb_no h).elim⟩, fun h => (nb_no h).elim⟩, fun h => (nb_no h).elim⟩
  exact ⟨S_mm14 l m, ent_of [] rfl (tm_cons rfl (sm_same rfl) (tm_cons rfl (sm_same rfl) (tm_cons rfl (sm_same rfl) (tm_cons rfl (sm_same rfl) tm_nil)))) hp_nil, ssm_14 hv hm hn⟩
def addS (l : List Ses) (x : Int × Int) (q : Int) : List Ses := l ++ [⟨ii x 0, ii x 1, nrep q⟩]
theorem ssm_11 {l : List Ses} (hv : VS l) (x : Int × Int) {n : Nat} (hn : n < 256) (who seq : Int) : Holds C P 148 [] 0 (FunPost C 148 0 [.tmp 6] (.sb true) []) (cutAt C w_ssm b_ssm [1, 1, 1, 1, 1, 1, 1, 1, 0] (S_m11 l x n who seq) (after C w_ssm b_ssm [1, 1, 1, 1, 1, 1, 1, 1, 0] [] lf)) := by
  refine of_eq (ssm_C11 l x n who seq 0 _) ?_
  have h8 := hv.2.2
  have tm : Int.tmod (n : Int) 2 = (n : Int) % 2 := Int.tmod_eq_emod_of_nonneg (by omega)
  have hlen : (addS l x (Int.tmod (n : Int) 2)).length = l.length + 1 := by simp [addS]
  refine ⟨by trivial, .inl (by trivial), by omega, (by first | omega | decide | (unfold I64; omega)), (by first | omega | decide | (unfold I64; omega)), (by first | omega | decide | (unfold I64; omega)), by rw [tm]; exact (by first | omega | decide | (unfold I64; omega)), by omega, ?_⟩
  refine ⟨S_mm13 l (addS l x (Int.tmod (n : Int) 2)) x who seq, (ent_freeze _ [81]).trans (ent_of [(4, 4), (10, 10)] rfl (tm_cons rfl (sm_ptr rfl) (tm_cons rfl (sm_same rfl) (tm_cons rfl (sm_same rfl) (tm_cons rfl (sm_same rfl) (tm_cons rfl (sm_ptr rfl) (tm_cons rfl (sm_same rfl) (tm_cons rfl (sm_datr (by rw [hlen]; omega) (by simp) fun k hk => ?_) tm_nil))))))) (hp_cons rfl rfl (sm_same rfl) (hp_cons rfl rfl (sm_same rfl) hp_nil))), ?_⟩
  · have hk : k < 0 + l.length + 1 := hk
    by_cases hkl : k < l.length
    · refine .inl ?_
      show cat (0 + l.length) _ _ (0 + k) = _
      unfold cat
      rw [if_pos (by omega)]
      show seA (seAt l (0 + (0 + k))) = seA (seAt (addS l x _) k)
      have : seAt (addS l x (Int.tmod (n : Int) 2)) k = seAt l k := by
        rw [seAt_lt (by omega), seAt_lt hkl]
        simp [addS, hkl]
      rw [this, Nat.zero_add, Nat.zero_add]
    · obtain rfl : k = l.length := by omega
      refine .inr ?_
      have e1 : cat (0 + l.length) (fun i => seA (seAt l (0 + i))) (fun i => nthD [(.st [.i (ii x 0), .i (ii x 1), rpN (Int.tmod (n : Int) 2)] : AV)] (0 + i) (.v (.tuple (List.toArray [])))) (0 + l.length) = .st [.i (ii x 0), .i (ii x 1), rpN (Int.tmod (n : Int) 2)] := by
        unfold cat
        rw [if_neg (by omega), Nat.sub_self]; rfl
      have e2 : seAt (addS l x (Int.tmod (n : Int) 2)) l.length = ⟨ii x 0, ii x 1, nrep (Int.tmod (n : Int) 2)⟩ := by
        rw [seAt_lt (by omega)]; simp [addS]
      show sim _ (cat (0 + l.length) _ _ (0 + l.length)) (seA (seAt (addS l x _) l.length))
      rw [e2]
      rw [e1]
      exact ⟨sm_int rfl, sm_int rfl, .inr (sm_rpN _), trivial⟩
  · refine ssm_13 hv (fun s hs => ?_) (by omega) x who seq
    rcases List.mem_append.1 hs with hs | hs
    · exact hv.ok s hs
    · simp at hs; subst hs; exact nrep_ok _
theorem ssm_8 {l : List Ses} (hv : VS l) (x : Int × Int) {n : Nat} (hn : n < 256) (who : Int) : Holds C P 148 [] 0 (FunPost C 148 0 [.tmp 6] (.sb true) []) (cutAt C w_ssm b_ssm [1, 1, 1, 1, 1, 1, 0] (S_m8 l x n who) (after C w_ssm b_ssm [1, 1, 1, 1, 1, 1, 0] [] lf)) := by
  refine of_eq (ssm_C8 l x n who 0 _) ?_
  simp only [toSeL]
  refine ⟨(by first | omega | decide | (unfold I64; omega)), rfind_fun false hv who, trivial, S_m9 l x n who (ii x 0) (rfI l who), ent_of [(4, 4), (10, 10)] rfl (tm_cons rfl (sm_same rfl) (tm_cons rfl (sm_ptr rfl) (tm_cons rfl (sm_same rfl) (tm_cons rfl (sm_same rfl) (tm_cons rfl (sm_same rfl) (tm_cons rfl (sm_ptr rfl) (tm_cons rfl (sm_same rfl) (tm_cons rfl (sm_same rfl) tm_nil)))))))) (hp_cons rfl rfl (sm_same rfl) (hp_cons rfl rfl (sm_same rfl) hp_nil)), ?_⟩
  rcases (hv.rf who).symm with ⟨hh, hr⟩ | ⟨hh, hr, hp, hw⟩
  · rw [hr]
    refine of_eq (ssm_C9 l x n who _ (-1) 0 _) ?_
    refine ⟨fun h => ?_, fun _ => ⟨S_m11 l x n who _, ent_of [(4, 4), (10, 10)] rfl (tm_cons rfl (sm_same rfl) (tm_cons rfl (sm_ptr rfl) (tm_cons rfl (sm_same rfl) (tm_cons rfl (sm_same rfl) (tm_cons rfl (sm_same rfl) (tm_cons rfl (sm_ptr rfl) (tm_cons rfl (sm_same rfl) tm_nil))))))) (hp_cons rfl rfl (sm_same rfl) (hp_cons rfl rfl (sm_same rfl) hp_nil)), ssm_11 hv x hn who _⟩⟩
    have := of_decide_eq_true h; omega
  · rw [hr]
    refine of_eq (ssm_C9k l x n who _ _ 0 _) ?_
    have hq := hv.at hp
    have tm : Int.tdiv (n : Int) 2 = ((n / 2 : Nat) : Int) := by rw [Int.tdiv_eq_ediv_of_nonneg (by omega)]; omega
    have tw : IntKind.wrap .u8 (Int.tdiv (n : Int) 2) = ((n / 2 % 256 : Nat) : Int) := by rw [tm]; simp [IntKind.wrap, IntKind.bits, IntKind.signed]
    rw [tw]
    have tq : Int.tmod ((n / 2 % 256 : Nat) : Int) 4 = ((n / 2 % 256 : Nat) : Int) % 4 := Int.tmod_eq_emod_of_nonneg (by omega)
    rw [tq]
    exact ⟨fun _ => ⟨(by first | omega | decide | (unfold I64; omega)), fun _ => ⟨(by first | omega | decide | (unfold I64; omega)), (by first | omega | decide | (unfold I64; omega)), (by first | omega | decide | (unfold I64; omega)), (by first | omega | decide | (unfold I64; omega)), (by first | omega | decide | (unfold I64; omega)), (by first | omega | decide | (unfold I64; omega)), S_m11 l x n who _, ent_of [(4, 4), (10, 10)] rfl (tm_cons rfl (sm_same rfl) (tm_cons rfl (sm_ptr rfl) (tm_cons rfl (sm_same rfl) (tm_cons rfl (sm_same rfl) (tm_cons rfl (sm_same rfl) (tm_cons rfl (sm_ptr rfl) (tm_cons rfl (sm_same rfl) tm_nil))))))) (hp_cons rfl rfl (sm_same rfl) (hp_cons rfl rfl (sm_same rfl) hp_nil)), ssm_11 hv x hn who _⟩, fun _ => ⟨S_m11 l x n who _, ent_of [(4, 4), (10, 10)] rfl (tm_cons rfl (sm_same rfl) (tm_cons rfl (sm_ptr rfl) (tm_cons rfl (sm_same rfl) (tm_cons rfl (sm_same rfl) (tm_cons rfl (sm_same rfl) (tm_cons rfl (sm_ptr rfl) (tm_cons rfl (sm_same rfl) tm_nil))))))) (hp_cons rfl rfl (sm_same rfl) (hp_cons rfl rfl (sm_same rfl) hp_nil)), ssm_11 hv x hn who _⟩⟩, fun _ => ⟨S_m11 l x n who _, ent_of [(4, 4), (10, 10)] rfl (tm_cons rfl (sm_same rfl) (tm_cons rfl (sm_ptr rfl) (tm_cons rfl (sm_same rfl) (tm_cons rfl (sm_same rfl) (tm_cons rfl (sm_same rfl) (tm_cons rfl (sm_ptr rfl) (tm_cons rfl (sm_same rfl) tm_nil))))))) (hp_cons rfl rfl (sm_same rfl) (hp_cons rfl rfl (sm_same rfl) hp_nil)), ssm_11 hv x hn who _⟩⟩
theorem ssm_fun (ex : Bool) (l : List Tri) (hl : ∀ x, x ∈ l → Tri8 x) (x : Int × Int) {n : Nat} (hn : n < 256) : Fun C P F_ssm [dTri ex l, iiA x, u8 n] [] (.sb true) [] := by
  refine in_ssm (W := w_ssm) rfl 0 (by simp) rfl (fun id h => absurd rfl h) ?_
  refine of_eq (ssm_A ex l x n 0 _) ?_
  rw [toTris_A]
  refine ⟨sanity_fun, trivial, fun _ => post_tmp rfl (sm_sb rfl), fun h20 => ⟨made_fun ex l hl (by have := of_decide_eq_false h20; omega), ?_⟩⟩
  have hv := vs_made l
  generalize madeS l = l at hv
  refine ⟨S_m5 l x n, ent_of [(4, 4)] rfl (tm_cons rfl (sm_same rfl) (tm_cons rfl (sm_ptr rfl) (tm_cons rfl (sm_same rfl) (tm_cons rfl (sm_same rfl) tm_nil)))) (hp_cons rfl rfl (sm_same rfl) hp_nil), ?_⟩
  refine of_eq (ssm_C5 l x n 0 _) ?_
  have tm : Int.tmod (n : Int) 12 = (n : Int) % 12 := Int.tmod_eq_emod_of_nonneg (by omega)
  refine ⟨(by first | omega | decide | (unfold I64; omega)), by rw [tm]; exact (by first | omega | decide | (unfold I64; omega)), (by first | omega | decide | (unfold I64; omega)), shR_t, fun h0 => ⟨fun _ => ?_, fun _ => ?_⟩, fun _ => ?_⟩
  · have h0 := of_decide_eq_true h0
    have hm0 : 0 ≤ Int.tmod (n : Int) (l.length : Int) := Int.tmod_nonneg _ (by omega)
    have hm1 : Int.tmod (n : Int) (l.length : Int) < (l.length : Int) := Int.tmod_lt_of_pos _ (by omega)
    exact ⟨(by first | omega | decide | (unfold I64; omega)), by omega, ⟨hm0, hm1⟩, S_m8 l x n _, ent_of [(4, 4), (10, 10)] rfl (tm_cons rfl (sm_same rfl) (tm_cons rfl (sm_ptr rfl) (tm_cons rfl (sm_same rfl) (tm_cons rfl (sm_same rfl) (tm_cons rfl (sm_same rfl) (tm_cons rfl (sm_ptr rfl) tm_nil)))))) (hp_cons rfl rfl (sm_same rfl) (hp_cons rfl rfl (sm_same rfl) hp_nil)), ssm_8 hv x hn _⟩
  · exact ⟨S_m8 l x n _, ent_of [(4, 4), (10, 10)] rfl (tm_cons rfl (sm_same rfl) (tm_cons rfl (sm_ptr rfl) (tm_cons rfl (sm_same rfl) (tm_cons rfl (sm_same rfl) (tm_cons rfl (sm_same rfl) (tm_cons rfl (sm_ptr rfl) tm_nil)))))) (hp_cons rfl rfl (sm_same rfl) (hp_cons rfl rfl (sm_same rfl) hp_nil)), ssm_8 hv x hn _⟩
  · exact ⟨S_m8 l x n _, ent_of [(4, 4), (10, 10)] rfl (tm_cons rfl (sm_same rfl) (tm_cons rfl (sm_ptr rfl) (tm_cons rfl (sm_same rfl) (tm_cons rfl (sm_same rfl) (tm_cons rfl (sm_same rfl) (tm_cons rfl (sm_ptr rfl) tm_nil)))))) (hp_cons rfl rfl (sm_same rfl) (hp_cons rfl rfl (sm_same rfl) hp_nil)), ssm_8 hv x hn _⟩
theorem ssm_law {x0 x1 x2 : AV} (h0 : Typed C.tt 6 45 x0) (h1 : Typed C.tt 6 60 x1) (h2 : Typed C.tt 6 5 x2) : Fun C P F_ssm [x0, x1, x2] [] (.sb true) [] := by
  obtain ⟨l, ex, hl, h8, s0⟩ := typed_tris h0
  obtain ⟨x, _, s1⟩ := typed_ii h1
  obtain ⟨n, rfl, hn⟩ := typed_u8 rfl h2
  exact (ssm_fun ex l h8 x hn).sim ⟨s0, s1, sm_same rfl, trivial⟩ trivial
end Go.Bu.W

