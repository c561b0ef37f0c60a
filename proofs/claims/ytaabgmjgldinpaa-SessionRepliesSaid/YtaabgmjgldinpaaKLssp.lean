/- SessionReplies. -/
import Derived.Test.YtaabgmjgldinpaaK16
namespace Go.Bu.W
def w_ssp : Way := wayK [0, 1, 2, 5, 6, 7, 8, 9, 10, 11, 12, 16, 22, 34, 52, 94] 122 [5,8,11,13,14,15,17]
def S_p5 (l : List Ses) (n : Int) (r : Rp) : St := { tm := [(1, .v (.int .u8 n)), (5, .ptr 5 []), (7, .sb true), (8, dSe false l)], hp := [(5, .c (rpA r))], seen := [5] }
def S_p8 (l : List Ses) (s : Ses) (r : Rp) : St := { tm := [(5, .ptr 5 []), (7, .sb true), (8, dSe false l), (9, .ptr 9 [])], hp := [(5, .c (rpA r)), (9, .c (seA s))], seen := [5, 9] }
def S_p11 (s : Ses) (r : Rp) (o : LR) : St := { tm := [(5, .ptr 5 []), (7, .sb true), (9, .ptr 9 []), (10, .ptr 10 [])], hp := [(5, .c (rpA r)), (9, .c (seA s)), (10, .c (lrA o))], seen := [5, 9, 10] }
def S_p14 (s : Ses) (r : Rp) (o : LR) : St := { tm := [(5, .ptr 5 []), (7, .sb true), (9, .ptr 9 []), (10, .ptr 10 []), (11, .sb true)], hp := [(5, .c (rpA r)), (9, .c (seA s)), (10, .c (lrA o))], seen := [5, 9, 10] }
def S_p15 (s : Ses) (r : Rp) (o q : LR) : St := { tm := [(5, .ptr 5 []), (7, .sb true), (9, .ptr 9 []), (10, .ptr 10 []), (11, .sb true), (12, .ptr 12 [])], hp := [(5, .c (rpA r)), (9, .c (seA s)), (10, .c (lrA o)), (12, .c (lrA q))], seen := [5, 9, 10, 12] }

theorem ssp_A (ex : Bool) (l : List Tri) (n : Int) (r : Rp) (K : Nat) (Φ : Ex → St → Prop) :
  (Holds C P 122 [] K Φ (vc C w_ssp b_ssp [] (start [dTri ex l, .v (.int .u8 n), rpA r] []) lf)) =
  (Fun W.C W.P 10 [] [] (AV.sb true) [] ∧
 (True ∧
 (((decide ((((List.length l) : Nat) : Int) > (20 : Int))) = true →
 (Φ Ex.ret (St.mk [(0, (W.dTri ex l)), (1, (AV.v (Value.int IntKind.u8 n))), (2, (W.rpA r)), (5, (AV.ptr 5 [])), (6, (AV.sb true)), (7, (AV.sb true)), (16, (AV.v (Value.bool true)))] [(5, (Blk.c (W.rpA r)))] [5]))) ∧
 ((decide ((((List.length l) : Nat) : Int) > (20 : Int))) = false →
 (Fun W.C W.P 15 [(W.dTri ex l)] [] (W.dSe false (W.madeS (W.toL W.toTri (W.dTri ex l)))) [] ∧
  (∃ (S2 : St), Ent W.C 122 ([] : List Deferred) K (St.mk [(0, (W.dTri ex l)), (1, (AV.v (Value.int IntKind.u8 n))), (2, (W.rpA r)), (5, (AV.ptr 5 [])), (6, (AV.v (Value.bool false))), (7, (AV.sb true)), (8, (W.dSe false (W.madeS (W.toL W.toTri (W.dTri ex l))))), (16, (AV.v (Value.bool false)))] [(5, (Blk.c (W.rpA r)))] [5]) S2 ∧ Holds W.C W.P 122 ([] : List Deferred) K Φ (cutAt W.C w_ssp b_ssp [1, 1, 1, 1, 0, 0] S2 (after W.C w_ssp b_ssp [1, 1, 1, 1, 0, 0] [] lf)))))))) := by kernel_rfl
theorem ssp_C5 (l : List Ses) (n : Int) (r : Rp) (K : Nat) (Φ : Ex → St → Prop) :
  (Holds C P 122 [] K Φ (cutAt C w_ssp b_ssp [1, 1, 1, 1, 0, 0] (S_p5 l n r) (after C w_ssp b_ssp [1, 1, 1, 1, 0, 0] [] lf))) =
  ((((((List.length l) : Nat) : Int) == (0 : Int)) = true →
 (Φ Ex.ret (St.mk [(1, (AV.v (Value.int IntKind.u8 n))), (5, (AV.ptr 5 [])), (6, (AV.sb true)), (7, (AV.sb true)), (8, (W.dSe false l)), (22, (AV.v (Value.bool true)))] [(5, (Blk.c (W.rpA r)))] [5]))) ∧
 (((((List.length l) : Nat) : Int) == (0 : Int)) = false →
 ((I64 n) ∧
  (((((List.length l) : Nat) : Int) ≠ (0 : Int)) ∧
  ((((0 : Int) ≤ (Int.tmod n (((List.length l) : Nat) : Int))) ∧ ((Int.tmod n (((List.length l) : Nat) : Int)) < (((List.length l) : Nat) : Int))) ∧
  ((W.ShS) ∧
  (∃ (S2 : St), Ent W.C 122 ([] : List Deferred) K (St.mk [(1, (AV.v (Value.int IntKind.u8 n))), (5, (AV.ptr 5 [])), (7, (AV.sb true)), (8, (W.dSe false l)), (9, (AV.ptr 9 [])), (22, (AV.v (Value.bool false)))] [(5, (Blk.c (W.rpA r))), (9, (Blk.c (W.seA (W.seAt l (Int.toNat (Int.tmod n (((List.length l) : Nat) : Int)))))))] [9, 5]) S2 ∧ Holds W.C W.P 122 ([] : List Deferred) K Φ (cutAt W.C w_ssp b_ssp [1, 1, 1, 1, 1, 1, 0, 0] S2 (after W.C w_ssp b_ssp [1, 1, 1, 1, 1, 1, 0, 0] [] lf))))))))) := by kernel_rfl
theorem ssp_C8 (l : List Ses) (s : Ses) (r : Rp) (K : Nat) (Φ : Ex → St → Prop) :
  (Holds C P 122 [] K Φ (cutAt C w_ssp b_ssp [1, 1, 1, 1, 1, 1, 0, 0] (S_p8 l s r) (after C w_ssp b_ssp [1, 1, 1, 1, 1, 1, 0, 0] [] lf))) =
  (((decide ((W.Ses.seq s) ≥ (999999999 : Int))) = true →
 (Φ Ex.ret (St.mk [(5, (AV.ptr 5 [])), (6, (AV.sb true)), (7, (AV.sb true)), (8, (W.dSe false l)), (9, (AV.ptr 9 [])), (34, (AV.v (Value.bool true)))] [(5, (Blk.c (W.rpA r))), (9, (Blk.c (W.seA s)))] [5, 9]))) ∧
 ((decide ((W.Ses.seq s) ≥ (999999999 : Int))) = false →
 ((I64 ((W.Ses.seq s) + (1 : Int))) ∧
  (Fun W.C W.P 14 [(W.dSe false l), (AV.i (W.Ses.who s)), (AV.i ((W.Ses.seq s) + (1 : Int))), (W.rpA r)] [] (W.ltA (W.doneL (W.toLS (W.dSe false l)) (W.Ses.who s) ((W.Ses.seq s) + (1 : Int)) (W.toRp (W.rpA r))) (W.doneE (W.toLS (W.dSe false l)) (W.Ses.who s) ((W.Ses.seq s) + (1 : Int)))) [] ∧
  ((W.Sh2) ∧
  (∃ (S2 : St), Ent W.C 122 ([] : List Deferred) K (St.mk [(5, (AV.ptr 5 [])), (7, (AV.sb true)), (8, (W.dSe false l)), (9, (AV.ptr 9 [])), (10, (AV.ptr 10 [])), (34, (AV.v (Value.bool false)))] [(5, (Blk.c (W.rpA r))), (9, (Blk.c (W.seA s))), (10, (Blk.c (W.ltA (W.doneL (W.toLS (W.dSe false l)) (W.Ses.who s) ((W.Ses.seq s) + (1 : Int)) (W.toRp (W.rpA r))) (W.doneE (W.toLS (W.dSe false l)) (W.Ses.who s) ((W.Ses.seq s) + (1 : Int))))))] [10, 5, 9]) S2 ∧ Holds W.C W.P 122 ([] : List Deferred) K Φ (cutAt W.C w_ssp b_ssp [1, 1, 1, 1, 1, 1, 1, 1, 0, 0] S2 (after W.C w_ssp b_ssp [1, 1, 1, 1, 1, 1, 1, 1, 0, 0] [] lf)))))))) := by kernel_rfl
theorem ssp_C11 (s : Ses) (r : Rp) (o : LR) (K : Nat) (Φ : Ex → St → Prop) :
  (Holds C P 122 [] K Φ (cutAt C w_ssp b_ssp [1, 1, 1, 1, 1, 1, 1, 1, 0, 0] (S_p11 s r o) (after C w_ssp b_ssp [1, 1, 1, 1, 1, 1, 1, 1, 0, 0] [] lf))) =
  ((((Prod.snd o) != (0 : Int)) = true →
 (Φ Ex.ret (St.mk [(5, (AV.ptr 5 [])), (6, (AV.v (Value.bool false))), (7, (AV.sb true)), (9, (AV.ptr 9 [])), (10, (AV.ptr 10 [])), (52, (AV.v (Value.bool true)))] [(5, (Blk.c (W.rpA r))), (9, (Blk.c (W.seA s))), (10, (Blk.c (W.ltA (Prod.fst o) (Prod.snd o))))] [5, 9, 10]))) ∧
 (((Prod.snd o) != (0 : Int)) = false →
 (Fun W.C W.P 12 [(W.dSe false (Prod.fst o))] [] (AV.sb (W.vB (W.toLS (W.dSe false (Prod.fst o))))) [] ∧
  (True ∧
  (((! (W.vB (W.toLS (W.dSe false (Prod.fst o))))) = true →
  (Φ Ex.ret (St.mk [(5, (AV.ptr 5 [])), (6, (AV.v (Value.bool false))), (7, (AV.sb true)), (9, (AV.ptr 9 [])), (10, (AV.ptr 10 [])), (52, (AV.v (Value.bool true)))] [(5, (Blk.c (W.rpA r))), (9, (Blk.c (W.seA s))), (10, (Blk.c (W.ltA (Prod.fst o) (Prod.snd o))))] [5, 9, 10]))) ∧
  ((! (W.vB (W.toLS (W.dSe false (Prod.fst o))))) = false →
  (∃ (S2 : St), Ent W.C 122 ([] : List Deferred) K (St.mk [(5, (AV.ptr 5 [])), (7, (AV.sb true)), (9, (AV.ptr 9 [])), (10, (AV.ptr 10 [])), (52, (AV.v (Value.bool false)))] [(5, (Blk.c (W.rpA r))), (9, (Blk.c (W.seA s))), (10, (Blk.c (W.ltA (Prod.fst o) (Prod.snd o))))] [5, 9, 10]) S2 ∧ Holds W.C W.P 122 ([] : List Deferred) K Φ (cutAt W.C w_ssp b_ssp [1, 1, 1, 1, 1, 1, 1, 1, 1, 0] S2 (after W.C w_ssp b_ssp [1, 1, 1, 1, 1, 1, 1, 1, 1, 0] [] lf))))))))) := by kernel_rfl
theorem ssp_C13 (s : Ses) (r : Rp) (o : LR) (K : Nat) (Φ : Ex → St → Prop) :
  (Holds C P 122 [] K Φ (cutAt C w_ssp b_ssp [1, 1, 1, 1, 1, 1, 1, 1, 1, 0] (S_p11 s r o) (after C w_ssp b_ssp [1, 1, 1, 1, 1, 1, 1, 1, 1, 0] [] lf))) =
  ((I64 ((W.Ses.seq s) + (1 : Int))) ∧
 (Fun W.C W.P 13 [(W.dSe false (Prod.fst o)), (AV.i (W.Ses.who s)), (AV.i ((W.Ses.seq s) + (1 : Int)))] [] (W.lkA (W.seenR (W.toLS (W.dSe false (Prod.fst o))) (W.Ses.who s) ((W.Ses.seq s) + (1 : Int))) (W.seenB (W.toLS (W.dSe false (Prod.fst o))) (W.Ses.who s) ((W.Ses.seq s) + (1 : Int))) (W.seenE (W.toLS (W.dSe false (Prod.fst o))) (W.Ses.who s) ((W.Ses.seq s) + (1 : Int)))) [] ∧
 (Fun W.C W.P 16 [(W.lkA (W.seenR (W.toLS (W.dSe false (Prod.fst o))) (W.Ses.who s) ((W.Ses.seq s) + (1 : Int))) (W.seenB (W.toLS (W.dSe false (Prod.fst o))) (W.Ses.who s) ((W.Ses.seq s) + (1 : Int))) (W.seenE (W.toLS (W.dSe false (Prod.fst o))) (W.Ses.who s) ((W.Ses.seq s) + (1 : Int)))), (AV.st [(W.rpA r), (AV.v (Value.bool true)), (AV.i (0 : Int))])] [] (AV.sb (W.eqLk ((W.toRp (W.rpA (W.seenR (W.toLS (W.dSe false (Prod.fst o))) (W.Ses.who s) ((W.Ses.seq s) + (1 : Int))))), ((asB (AV.sb (W.seenB (W.toLS (W.dSe false (Prod.fst o))) (W.Ses.who s) ((W.Ses.seq s) + (1 : Int))))), (W.seenE (W.toLS (W.dSe false (Prod.fst o))) (W.Ses.who s) ((W.Ses.seq s) + (1 : Int))))) ((W.toRp (W.rpA r)), (true, (0 : Int))))) [] ∧
 (True ∧
 (((W.eqLk ((W.toRp (W.rpA (W.seenR (W.toLS (W.dSe false (Prod.fst o))) (W.Ses.who s) ((W.Ses.seq s) + (1 : Int))))), ((asB (AV.sb (W.seenB (W.toLS (W.dSe false (Prod.fst o))) (W.Ses.who s) ((W.Ses.seq s) + (1 : Int))))), (W.seenE (W.toLS (W.dSe false (Prod.fst o))) (W.Ses.who s) ((W.Ses.seq s) + (1 : Int))))) ((W.toRp (W.rpA r)), (true, (0 : Int)))) = true →
 ((I64 ((W.Ses.seq s) + (1 : Int))) ∧
  (Fun W.C W.P 14 [(W.dSe false (Prod.fst o)), (AV.i (W.Ses.who s)), (AV.i ((W.Ses.seq s) + (1 : Int))), (W.rpZ)] [] (W.ltA (W.doneL (W.toLS (W.dSe false (Prod.fst o))) (W.Ses.who s) ((W.Ses.seq s) + (1 : Int)) (W.rp0)) (W.doneE (W.toLS (W.dSe false (Prod.fst o))) (W.Ses.who s) ((W.Ses.seq s) + (1 : Int)))) [] ∧
  (∃ (S2 : St), Ent W.C 122 ([] : List Deferred) K (St.mk [(5, (AV.ptr 5 [])), (7, (AV.sb true)), (9, (AV.ptr 9 [])), (10, (AV.ptr 10 [])), (11, (AV.sb ((W.doneE (W.toLS (W.dSe false (Prod.fst o))) (W.Ses.who s) ((W.Ses.seq s) + (1 : Int))) == (190 : Int))))] [(5, (Blk.c (W.rpA r))), (9, (Blk.c (W.seA s))), (10, (Blk.c (W.ltA (Prod.fst o) (Prod.snd o))))] [5, 9, 10]) S2 ∧ Holds W.C W.P 122 ([] : List Deferred) K Φ (cutAt W.C w_ssp b_ssp [1, 1, 1, 1, 1, 1, 1, 1, 1, 1, 0] S2 (after W.C w_ssp b_ssp [1, 1, 1, 1, 1, 1, 1, 1, 1, 1, 0] [] lf)))))) ∧
 ((W.eqLk ((W.toRp (W.rpA (W.seenR (W.toLS (W.dSe false (Prod.fst o))) (W.Ses.who s) ((W.Ses.seq s) + (1 : Int))))), ((asB (AV.sb (W.seenB (W.toLS (W.dSe false (Prod.fst o))) (W.Ses.who s) ((W.Ses.seq s) + (1 : Int))))), (W.seenE (W.toLS (W.dSe false (Prod.fst o))) (W.Ses.who s) ((W.Ses.seq s) + (1 : Int))))) ((W.toRp (W.rpA r)), (true, (0 : Int)))) = false →
 (∃ (S2 : St), Ent W.C 122 ([] : List Deferred) K (St.mk [(5, (AV.ptr 5 [])), (7, (AV.sb true)), (9, (AV.ptr 9 [])), (10, (AV.ptr 10 [])), (11, (AV.v (Value.bool false)))] [(5, (Blk.c (W.rpA r))), (9, (Blk.c (W.seA s))), (10, (Blk.c (W.ltA (Prod.fst o) (Prod.snd o))))] [5, 9, 10]) S2 ∧ Holds W.C W.P 122 ([] : List Deferred) K Φ (cutAt W.C w_ssp b_ssp [1, 1, 1, 1, 1, 1, 1, 1, 1, 1, 0] S2 (after W.C w_ssp b_ssp [1, 1, 1, 1, 1, 1, 1, 1, 1, 1, 0] [] lf))))))))) := by kernel_rfl
theorem ssp_C14 (s : Ses) (r : Rp) (o : LR) (K : Nat) (Φ : Ex → St → Prop) :
  (Holds C P 122 [] K Φ (cutAt C w_ssp b_ssp [1, 1, 1, 1, 1, 1, 1, 1, 1, 1, 0] (S_p14 s r o) (after C w_ssp b_ssp [1, 1, 1, 1, 1, 1, 1, 1, 1, 1, 0] [] lf))) =
  ((I64 ((W.Ses.seq s) + (2 : Int))) ∧
 (Fun W.C W.P 14 [(W.dSe false (Prod.fst o)), (AV.i (W.Ses.who s)), (AV.i ((W.Ses.seq s) + (2 : Int))), (W.rpZ)] [] (W.ltA (W.doneL (W.toLS (W.dSe false (Prod.fst o))) (W.Ses.who s) ((W.Ses.seq s) + (2 : Int)) (W.rp0)) (W.doneE (W.toLS (W.dSe false (Prod.fst o))) (W.Ses.who s) ((W.Ses.seq s) + (2 : Int)))) [] ∧
 ((W.Sh2) ∧
 (∃ (S2 : St), Ent W.C 122 ([] : List Deferred) K (St.mk [(5, (AV.ptr 5 [])), (7, (AV.sb true)), (9, (AV.ptr 9 [])), (10, (AV.ptr 10 [])), (11, (AV.sb true)), (12, (AV.ptr 12 []))] [(5, (Blk.c (W.rpA r))), (9, (Blk.c (W.seA s))), (10, (Blk.c (W.ltA (Prod.fst o) (Prod.snd o)))), (12, (Blk.c (W.ltA (W.doneL (W.toLS (W.dSe false (Prod.fst o))) (W.Ses.who s) ((W.Ses.seq s) + (2 : Int)) (W.rp0)) (W.doneE (W.toLS (W.dSe false (Prod.fst o))) (W.Ses.who s) ((W.Ses.seq s) + (2 : Int))))))] [12, 5, 9, 10]) S2 ∧ Holds W.C W.P 122 ([] : List Deferred) K Φ (cutAt W.C w_ssp b_ssp [1, 1, 1, 1, 1, 1, 1, 1, 1, 1, 1, 0, 0] S2 (after W.C w_ssp b_ssp [1, 1, 1, 1, 1, 1, 1, 1, 1, 1, 1, 0, 0] [] lf)))))) := by kernel_rfl
theorem ssp_C15 (s : Ses) (r : Rp) (o q : LR) (K : Nat) (Φ : Ex → St → Prop) :
  (Holds C P 122 [] K Φ (cutAt C w_ssp b_ssp [1, 1, 1, 1, 1, 1, 1, 1, 1, 1, 1, 0, 0] (S_p15 s r o q) (after C w_ssp b_ssp [1, 1, 1, 1, 1, 1, 1, 1, 1, 1, 1, 0, 0] [] lf))) =
  ((((Prod.snd q) != (0 : Int)) = true →
 (Φ Ex.ret (St.mk [(5, (AV.ptr 5 [])), (6, (AV.v (Value.bool false))), (7, (AV.sb true)), (9, (AV.ptr 9 [])), (10, (AV.ptr 10 [])), (11, (AV.sb true)), (12, (AV.ptr 12 [])), (94, (AV.v (Value.bool true)))] [(5, (Blk.c (W.rpA r))), (9, (Blk.c (W.seA s))), (10, (Blk.c (W.ltA (Prod.fst o) (Prod.snd o)))), (12, (Blk.c (W.ltA (Prod.fst q) (Prod.snd q))))] [5, 9, 10, 12]))) ∧
 (((Prod.snd q) != (0 : Int)) = false →
 (Fun W.C W.P 12 [(W.dSe false (Prod.fst q))] [] (AV.sb (W.vB (W.toLS (W.dSe false (Prod.fst q))))) [] ∧
  (True ∧
  (((! (W.vB (W.toLS (W.dSe false (Prod.fst q))))) = true →
  (Φ Ex.ret (St.mk [(5, (AV.ptr 5 [])), (6, (AV.v (Value.bool false))), (7, (AV.sb true)), (9, (AV.ptr 9 [])), (10, (AV.ptr 10 [])), (11, (AV.sb true)), (12, (AV.ptr 12 [])), (94, (AV.v (Value.bool true)))] [(5, (Blk.c (W.rpA r))), (9, (Blk.c (W.seA s))), (10, (Blk.c (W.ltA (Prod.fst o) (Prod.snd o)))), (12, (Blk.c (W.ltA (Prod.fst q) (Prod.snd q))))] [5, 9, 10, 12]))) ∧
  ((! (W.vB (W.toLS (W.dSe false (Prod.fst q))))) = false →
  (∃ (S2 : St), Ent W.C 122 ([] : List Deferred) K (St.mk [(5, (AV.ptr 5 [])), (7, (AV.sb true)), (9, (AV.ptr 9 [])), (10, (AV.ptr 10 [])), (11, (AV.sb true)), (12, (AV.ptr 12 [])), (94, (AV.v (Value.bool false)))] [(5, (Blk.c (W.rpA r))), (9, (Blk.c (W.seA s))), (10, (Blk.c (W.ltA (Prod.fst o) (Prod.snd o)))), (12, (Blk.c (W.ltA (Prod.fst q) (Prod.snd q))))] [5, 9, 10, 12]) S2 ∧ Holds W.C W.P 122 ([] : List Deferred) K Φ (cutAt W.C w_ssp b_ssp [1, 1, 1, 1, 1, 1, 1, 1, 1, 1, 1, 1, 0] S2 (after W.C w_ssp b_ssp [1, 1, 1, 1, 1, 1, 1, 1, 1, 1, 1, 1, 0] [] lf))))))))) := by kernel_rfl
theorem ssp_C17 (s : Ses) (r : Rp) (o q : LR) (K : Nat) (Φ : Ex → St → Prop) :
  (Holds C P 122 [] K Φ (cutAt C w_ssp b_ssp [1, 1, 1, 1, 1, 1, 1, 1, 1, 1, 1, 1, 0] (S_p15 s r o q) (after C w_ssp b_ssp [1, 1, 1, 1, 1, 1, 1, 1, 1, 1, 1, 1, 0] [] lf))) =
  ((true = true →
 ((I64 ((W.Ses.seq s) + (1 : Int))) ∧
  (Fun W.C W.P 13 [(W.dSe false (Prod.fst q)), (AV.i (W.Ses.who s)), (AV.i ((W.Ses.seq s) + (1 : Int)))] [] (W.lkA (W.seenR (W.toLS (W.dSe false (Prod.fst q))) (W.Ses.who s) ((W.Ses.seq s) + (1 : Int))) (W.seenB (W.toLS (W.dSe false (Prod.fst q))) (W.Ses.who s) ((W.Ses.seq s) + (1 : Int))) (W.seenE (W.toLS (W.dSe false (Prod.fst q))) (W.Ses.who s) ((W.Ses.seq s) + (1 : Int)))) [] ∧
  (Fun W.C W.P 16 [(W.lkA (W.seenR (W.toLS (W.dSe false (Prod.fst q))) (W.Ses.who s) ((W.Ses.seq s) + (1 : Int))) (W.seenB (W.toLS (W.dSe false (Prod.fst q))) (W.Ses.who s) ((W.Ses.seq s) + (1 : Int))) (W.seenE (W.toLS (W.dSe false (Prod.fst q))) (W.Ses.who s) ((W.Ses.seq s) + (1 : Int)))), (AV.st [(W.rpZ), (AV.v (Value.bool false)), (AV.i (191 : Int))])] [] (AV.sb (W.eqLk ((W.toRp (W.rpA (W.seenR (W.toLS (W.dSe false (Prod.fst q))) (W.Ses.who s) ((W.Ses.seq s) + (1 : Int))))), ((asB (AV.sb (W.seenB (W.toLS (W.dSe false (Prod.fst q))) (W.Ses.who s) ((W.Ses.seq s) + (1 : Int))))), (W.seenE (W.toLS (W.dSe false (Prod.fst q))) (W.Ses.who s) ((W.Ses.seq s) + (1 : Int))))) ((W.rp0), (false, (191 : Int))))) [] ∧
  (True ∧
  (((W.eqLk ((W.toRp (W.rpA (W.seenR (W.toLS (W.dSe false (Prod.fst q))) (W.Ses.who s) ((W.Ses.seq s) + (1 : Int))))), ((asB (AV.sb (W.seenB (W.toLS (W.dSe false (Prod.fst q))) (W.Ses.who s) ((W.Ses.seq s) + (1 : Int))))), (W.seenE (W.toLS (W.dSe false (Prod.fst q))) (W.Ses.who s) ((W.Ses.seq s) + (1 : Int))))) ((W.rp0), (false, (191 : Int)))) = true →
  (Fun W.C W.P 13 [(W.dSe false (Prod.fst o)), (AV.i (W.Ses.who s)), (AV.i (W.Ses.seq s))] [] (W.lkA (W.seenR (W.toLS (W.dSe false (Prod.fst o))) (W.Ses.who s) (W.Ses.seq s)) (W.seenB (W.toLS (W.dSe false (Prod.fst o))) (W.Ses.who s) (W.Ses.seq s)) (W.seenE (W.toLS (W.dSe false (Prod.fst o))) (W.Ses.who s) (W.Ses.seq s))) [] ∧
   (Fun W.C W.P 16 [(W.lkA (W.seenR (W.toLS (W.dSe false (Prod.fst o))) (W.Ses.who s) (W.Ses.seq s)) (W.seenB (W.toLS (W.dSe false (Prod.fst o))) (W.Ses.who s) (W.Ses.seq s)) (W.seenE (W.toLS (W.dSe false (Prod.fst o))) (W.Ses.who s) (W.Ses.seq s))), (AV.st [(W.rpZ), (AV.v (Value.bool false)), (AV.i (191 : Int))])] [] (AV.sb (W.eqLk ((W.toRp (W.rpA (W.seenR (W.toLS (W.dSe false (Prod.fst o))) (W.Ses.who s) (W.Ses.seq s)))), ((asB (AV.sb (W.seenB (W.toLS (W.dSe false (Prod.fst o))) (W.Ses.who s) (W.Ses.seq s)))), (W.seenE (W.toLS (W.dSe false (Prod.fst o))) (W.Ses.who s) (W.Ses.seq s)))) ((W.rp0), (false, (191 : Int))))) [] ∧
   (True ∧
   (((W.eqLk ((W.toRp (W.rpA (W.seenR (W.toLS (W.dSe false (Prod.fst o))) (W.Ses.who s) (W.Ses.seq s)))), ((asB (AV.sb (W.seenB (W.toLS (W.dSe false (Prod.fst o))) (W.Ses.who s) (W.Ses.seq s)))), (W.seenE (W.toLS (W.dSe false (Prod.fst o))) (W.Ses.who s) (W.Ses.seq s)))) ((W.rp0), (false, (191 : Int)))) = true →
   (Φ Ex.ret (St.mk [(5, (AV.ptr 5 [])), (6, (AV.sb true)), (7, (AV.sb true)), (9, (AV.ptr 9 [])), (10, (AV.ptr 10 [])), (11, (AV.sb true)), (12, (AV.ptr 12 []))] [(5, (Blk.c (W.rpA r))), (9, (Blk.c (W.seA s))), (10, (Blk.c (W.ltA (Prod.fst o) (Prod.snd o)))), (12, (Blk.c (W.ltA (Prod.fst q) (Prod.snd q))))] [5, 9, 10, 12]))) ∧
   ((W.eqLk ((W.toRp (W.rpA (W.seenR (W.toLS (W.dSe false (Prod.fst o))) (W.Ses.who s) (W.Ses.seq s)))), ((asB (AV.sb (W.seenB (W.toLS (W.dSe false (Prod.fst o))) (W.Ses.who s) (W.Ses.seq s)))), (W.seenE (W.toLS (W.dSe false (Prod.fst o))) (W.Ses.who s) (W.Ses.seq s)))) ((W.rp0), (false, (191 : Int)))) = false →
   (Φ Ex.ret (St.mk [(5, (AV.ptr 5 [])), (6, (AV.v (Value.bool false))), (7, (AV.sb true)), (9, (AV.ptr 9 [])), (10, (AV.ptr 10 [])), (11, (AV.sb true)), (12, (AV.ptr 12 []))] [(5, (Blk.c (W.rpA r))), (9, (Blk.c (W.seA s))), (10, (Blk.c (W.ltA (Prod.fst o) (Prod.snd o)))), (12, (Blk.c (W.ltA (Prod.fst q) (Prod.snd q))))] [5, 9, 10, 12])))))))) ∧
  ((W.eqLk ((W.toRp (W.rpA (W.seenR (W.toLS (W.dSe false (Prod.fst q))) (W.Ses.who s) ((W.Ses.seq s) + (1 : Int))))), ((asB (AV.sb (W.seenB (W.toLS (W.dSe false (Prod.fst q))) (W.Ses.who s) ((W.Ses.seq s) + (1 : Int))))), (W.seenE (W.toLS (W.dSe false (Prod.fst q))) (W.Ses.who s) ((W.Ses.seq s) + (1 : Int))))) ((W.rp0), (false, (191 : Int)))) = false →
  (Φ Ex.ret (St.mk [(5, (AV.ptr 5 [])), (6, (AV.v (Value.bool false))), (7, (AV.sb true)), (9, (AV.ptr 9 [])), (10, (AV.ptr 10 [])), (11, (AV.sb true)), (12, (AV.ptr 12 []))] [(5, (Blk.c (W.rpA r))), (9, (Blk.c (W.seA s))), (10, (Blk.c (W.ltA (Prod.fst o) (Prod.snd o)))), (12, (Blk.c (W.ltA (Prod.fst q) (Prod.snd q))))] [5, 9, 10, 12]))))))))) ∧
 (true = false →
 (Φ Ex.ret (St.mk [(5, (AV.ptr 5 [])), (6, (AV.v (Value.bool false))), (7, (AV.sb true)), (9, (AV.ptr 9 [])), (10, (AV.ptr 10 [])), (11, (AV.sb true)), (12, (AV.ptr 12 []))] [(5, (Blk.c (W.rpA r))), (9, (Blk.c (W.seA s))), (10, (Blk.c (W.ltA (Prod.fst o) (Prod.snd o)))), (12, (Blk.c (W.ltA (Prod.fst q) (Prod.snd q))))] [5, 9, 10, 12])))) := by kernel_rfl
theorem sm_lkO {m : Nat → Option Nat} {e : Int} : simR m (.st [rpZ, .v (.bool false), .i e]) (lkA rp0 false e) := .inr ⟨.inr sm_rpZ', sm_b rfl, sm_int rfl, trivial⟩
theorem ssp_17 {s : Ses} {r : Rp} {o q : LR} (hvo : VS o.1) (hvq : VS q.1) (ho : seenE o.1 s.who s.seq = 191 ∧ seenB o.1 s.who s.seq = false ∧ seenR o.1 s.who s.seq = rp0) (hq : seenE q.1 s.who (s.seq + 1) = 191 ∧ seenB q.1 s.who (s.seq + 1) = false ∧ seenR q.1 s.who (s.seq + 1) = rp0) (h9 : 0 ≤ s.seq ∧ s.seq ≤ 1000000000) :
    Holds C P 122 [] 0 (FunPost C 122 0 [.tmp 6] (.sb true) []) (cutAt C w_ssp b_ssp [1, 1, 1, 1, 1, 1, 1, 1, 1, 1, 1, 1, 0] (S_p15 s r o q) (after C w_ssp b_ssp [1, 1, 1, 1, 1, 1, 1, 1, 1, 1, 1, 1, 0] [] lf)) := by
  refine of_eq (ssp_C17 s r o q 0 _) ?_
  have a1 : ∀ b, asB (AV.sb b) = b := fun _ => rfl
  simp only [toSeL, toRp_A, a1]
  have q2 := eqLk_r (rp0, false, 191)
  rw [ho.1, ho.2.1, ho.2.2, hq.1, hq.2.1, hq.2.2, q2]
  exact ⟨fun _ => ⟨(by first | omega | decide | (unfold I64; omega)), seen_is hvq hq.1 hq.2.1 hq.2.2, (sameL_is rp0_ok q2).sim ⟨sm_same rfl, sm_lkO, trivial⟩ trivial, trivial, fun _ => ⟨seen_is hvo ho.1 ho.2.1 ho.2.2, (sameL_is rp0_ok q2).sim ⟨sm_same rfl, sm_lkO, trivial⟩ trivial, trivial, fun _ => post_tmp rfl (sm_sb rfl), fun h => (nb_no h).elim⟩, fun h => (nb_no h).elim⟩, fun h => (nb_no h).elim⟩
theorem ssp_fun (ex : Bool) (l : List Tri) (hl : ∀ x, x ∈ l → Tri8 x) {n : Nat} (hn : n < 256) {r : Rp} (hr : RpOK r) : Fun C P F_ssp [dTri ex l, u8 n, rpA r] [] (.sb true) [] := by
  refine in_ssp (W := w_ssp) rfl 0 (by simp) rfl (fun id h => absurd rfl h) ?_
  refine of_eq (ssp_A ex l n r 0 _) ?_
  rw [toTris_A]
  refine ⟨sanity_fun, trivial, fun _ => post_tmp rfl (sm_sb rfl), fun h20 => ⟨made_fun ex l hl (by have := of_decide_eq_false h20; omega), ?_⟩⟩
  have hv := vs_made l
  generalize madeS l = l at hv
  refine ⟨S_p5 l n r, ent_of [(5, 5)] rfl (tm_cons rfl (sm_same rfl) (tm_cons rfl (sm_ptr rfl) (tm_cons rfl (sm_same rfl) (tm_cons rfl (sm_same rfl) tm_nil)))) (hp_cons rfl rfl (sm_same rfl) hp_nil), ?_⟩
  refine of_eq (ssp_C5 l n r 0 _) ?_
  refine ⟨fun _ => post_tmp rfl (sm_sb rfl), fun h0 => ?_⟩
  have h0 : ¬ ((l.length : Int) = 0) := by simpa using h0
  have hm0 : 0 ≤ Int.tmod (n : Int) (l.length : Int) := Int.tmod_nonneg _ (by omega)
  have hm1 : Int.tmod (n : Int) (l.length : Int) < (l.length : Int) := Int.tmod_lt_of_pos _ (by omega)
  refine ⟨(by first | omega | decide | (unfold I64; omega)), h0, ⟨hm0, hm1⟩, shS_t, ?_⟩
  obtain ⟨k, hk⟩ : ∃ k, k = (Int.tmod (n : Int) (l.length : Int)).toNat := ⟨_, rfl⟩
  rw [← hk]
  have hkl : k < l.length := by omega
  obtain ⟨s, hs⟩ : ∃ s, s = seAt l k := ⟨_, rfl⟩
  rw [← hs]
  have hsm : s ∈ l := mem_at.2 ⟨k, hkl, hs.symm⟩
  obtain ⟨hh, ha⟩ := hv.mem hsm
  have h9 := hv.2.1 s hsm
  refine ⟨S_p8 l s r, ent_of [(5, 5), (9, 9)] rfl (tm_cons rfl (sm_ptr rfl) (tm_cons rfl (sm_same rfl) (tm_cons rfl (sm_same rfl) (tm_cons rfl (sm_ptr rfl) tm_nil)))) (hp_cons rfl rfl (sm_same rfl) (hp_cons rfl rfl (sm_same rfl) hp_nil)), ?_⟩
  refine of_eq (ssp_C8 l s r 0 _) ?_
  simp only [toSeL, toRp_A]
  refine ⟨fun _ => post_tmp rfl (sm_sb rfl), fun hlt => ?_⟩
  have hlt := of_decide_eq_false hlt
  obtain ⟨d1, hvm, hhm, ham⟩ := done_at hv (who := s.who) (seq := s.seq + 1) hr hh (by rw [ha]) (by omega)
  rw [d1]
  refine ⟨(by first | omega | decide | (unfold I64; omega)), done_is hv d1 rfl, sh2_t, ?_⟩
  generalize doneL l s.who (s.seq + 1) r = m at hvm hhm ham
  refine ⟨S_p11 s r (m, 0), ent_of [(5, 5), (9, 9), (10, 10)] rfl (tm_cons rfl (sm_ptr rfl) (tm_cons rfl (sm_same rfl) (tm_cons rfl (sm_ptr rfl) (tm_cons rfl (sm_ptr rfl) tm_nil)))) (hp_cons rfl rfl (sm_same rfl) (hp_cons rfl rfl (sm_same rfl) (hp_cons rfl rfl (sm_same rfl) hp_nil))), ?_⟩
  refine of_eq (ssp_C11 s r (m, 0) 0 _) ?_
  simp only [toSeL]
  rw [hvm.vB]
  refine ⟨fun h => (ne_no rfl h).elim, fun _ => ⟨vld hvm, trivial, fun h => (nt_no rfl h).elim, fun _ => ?_⟩⟩
  refine ⟨S_p11 s r (m, 0), ent_of [(5, 5), (9, 9), (10, 10)] rfl (tm_cons rfl (sm_ptr rfl) (tm_cons rfl (sm_same rfl) (tm_cons rfl (sm_ptr rfl) (tm_cons rfl (sm_ptr rfl) tm_nil)))) (hp_cons rfl rfl (sm_same rfl) (hp_cons rfl rfl (sm_same rfl) (hp_cons rfl rfl (sm_same rfl) hp_nil))), ?_⟩
  refine of_eq (ssp_C13 s r (m, 0) 0 _) ?_
  have a1 : ∀ b, asB (AV.sb b) = b := fun _ => rfl
  simp only [toSeL, toRp_A, a1]
  obtain ⟨n1, n2, n3⟩ := now_of hhm ham (by omega)
  have q1 := eqLk_r (r, true, 0)
  have e1 : doneE m s.who (s.seq + 1) = 190 := by unfold doneE; rw [if_pos (.inr (by rw [ham]; show ¬ s.seq + 1 = s.seq + 1 + 1; omega))]
  have e2 : doneL m s.who (s.seq + 1) rp0 = m := by unfold doneL; rw [e1]; rfl
  rw [n1, n2, n3, q1, e1, e2]
  refine ⟨(by first | omega | decide | (unfold I64; omega)), seen_is hvm n1 n2 n3, (sameL_is hr q1).sim ⟨sm_same rfl, sm_lkT, trivial⟩ trivial, trivial, fun _ => ⟨(by first | omega | decide | (unfold I64; omega)), (done_is hvm e1 e2).sim ⟨sm_same rfl, sm_same rfl, sm_same rfl, .inr sm_rpZ', trivial⟩ trivial, ?_⟩, fun h => (nb_no h).elim⟩
  refine ⟨S_p14 s r (m, 0), ent_of [(5, 5), (9, 9), (10, 10)] rfl (tm_cons rfl (sm_ptr rfl) (tm_cons rfl (sm_same rfl) (tm_cons rfl (sm_ptr rfl) (tm_cons rfl (sm_ptr rfl) (tm_cons rfl (sm_sb rfl) tm_nil))))) (hp_cons rfl rfl (sm_same rfl) (hp_cons rfl rfl (sm_same rfl) (hp_cons rfl rfl (sm_same rfl) hp_nil))), ?_⟩
  refine of_eq (ssp_C14 s r (m, 0) 0 _) ?_
  simp only [toSeL]
  obtain ⟨d2, hvq, hhq, haq⟩ := done_at hvm (who := s.who) (seq := s.seq + 2) rp0_ok hhm (by rw [ham]; show s.seq + 2 = s.seq + 1 + 1; omega) (by omega)
  rw [d2]
  refine ⟨(by first | omega | decide | (unfold I64; omega)), (done_is hvm d2 rfl).sim ⟨sm_same rfl, sm_same rfl, sm_same rfl, .inr sm_rpZ', trivial⟩ trivial, sh2_t, ?_⟩
  generalize doneL m s.who (s.seq + 2) rp0 = q at hvq hhq haq
  refine ⟨S_p15 s r (m, 0) (q, 0), ent_of [(5, 5), (9, 9), (10, 10), (12, 12)] rfl (tm_cons rfl (sm_ptr rfl) (tm_cons rfl (sm_same rfl) (tm_cons rfl (sm_ptr rfl) (tm_cons rfl (sm_ptr rfl) (tm_cons rfl (sm_same rfl) (tm_cons rfl (sm_ptr rfl) tm_nil)))))) (hp_cons rfl rfl (sm_same rfl) (hp_cons rfl rfl (sm_same rfl) (hp_cons rfl rfl (sm_same rfl) (hp_cons rfl rfl (sm_same rfl) hp_nil)))), ?_⟩
  refine of_eq (ssp_C15 s r (m, 0) (q, 0) 0 _) ?_
  simp only [toSeL]
  rw [hvq.vB]
  refine ⟨fun h => (ne_no rfl h).elim, fun _ => ⟨vld hvq, trivial, fun h => (nt_no rfl h).elim, fun _ => ?_⟩⟩
  refine ⟨S_p15 s r (m, 0) (q, 0), ent_of [(5, 5), (9, 9), (10, 10), (12, 12)] rfl (tm_cons rfl (sm_ptr rfl) (tm_cons rfl (sm_same rfl) (tm_cons rfl (sm_ptr rfl) (tm_cons rfl (sm_ptr rfl) (tm_cons rfl (sm_same rfl) (tm_cons rfl (sm_ptr rfl) tm_nil)))))) (hp_cons rfl rfl (sm_same rfl) (hp_cons rfl rfl (sm_same rfl) (hp_cons rfl rfl (sm_same rfl) (hp_cons rfl rfl (sm_same rfl) hp_nil)))), ?_⟩
  exact ssp_17 (o := (m, 0)) (q := (q, 0)) hvm hvq (old_of hhm (by rw [ham]; show s.seq < s.seq + 1; omega)) (old_of hhq (by rw [haq]; show s.seq + 1 < s.seq + 2; omega)) ⟨h9.2.1, h9.2.2.1⟩
theorem ssp_law {x0 x1 x2 : AV} (h0 : Typed C.tt 6 45 x0) (h1 : Typed C.tt 6 5 x1) (h2 : Typed C.tt 6 39 x2) : Fun C P F_ssp [x0, x1, x2] [] (.sb true) [] := by
  obtain ⟨l, ex, hl, h8, s0⟩ := typed_tris h0
  obtain ⟨n, rfl, hn⟩ := typed_u8 rfl h1
  obtain ⟨r, hr, s2⟩ := typed_rp (n := 1) h2
  exact (ssp_fun ex l h8 hn hr).sim ⟨s0, sm_same rfl, s2, trivial⟩ trivial
end Go.Bu.W

