/- SessionRefuses. -/
import Derived.Test.YtaabgmjgldinpaaK16
namespace Go.Bu.W
def w_ssr : Way := wayK [0, 1, 2, 6, 7, 8, 9, 10, 11, 12, 16, 29, 98] 125 [5,7,9,10,11,13]
def S_r5 (l : List Ses) (who seq : Int) : St := { tm := [(1, .i who), (2, .i seq), (7, .sb true), (8, dSe false l)], hp := [], seen := [] }
def S_r7 (l : List Ses) (who seq z : Int) (o : LR) : St := { tm := [(1, .i who), (2, .i seq), (7, .sb true), (8, dSe false l), (9, .i z), (10, .ptr 10 [])], hp := [(10, .c (lrA o))], seen := [10] }
def S_r9 (l : List Ses) (who seq z : Int) (o : LR) : St := { tm := [(1, .i who), (2, .i seq), (7, .sb true), (8, dSe false l), (9, .i z), (10, .ptr 10 []), (11, .sb true)], hp := [(10, .c (lrA o))], seen := [10] }
def S_r10 (l : List Ses) (who seq z : Int) (o : LR) : St := { tm := [(1, .i who), (2, .i seq), (7, .sb true), (8, dSe false l), (9, .i z), (10, .ptr 10 []), (11, .sb true), (12, .sb true)], hp := [(10, .c (lrA o))], seen := [10] }
def S_r11 (l : List Ses) (who seq : Int) (k : Nat) (o : LR) : St := { tm := [(1, .i who), (2, .i seq), (7, .sb true), (8, dSe false l), (9, i64 k), (10, .ptr 10 [])], hp := [(10, .c (lrA o))], seen := [10] }

theorem ssr_A (ex : Bool) (l : List Tri) (who seq : Int) (K : Nat) (Φ : Ex → St → Prop) :
  (Holds C P 125 [] K Φ (vc C w_ssr b_ssr [] (start [dTri ex l, .i who, .i seq] []) lf)) =
  (Fun W.C W.P 10 [] [] (AV.sb true) [] ∧
 (True ∧
 (((decide ((((List.length l) : Nat) : Int) > (20 : Int))) = true →
 (Φ Ex.ret (St.mk [(0, (W.dTri ex l)), (1, (AV.i who)), (2, (AV.i seq)), (6, (AV.sb true)), (7, (AV.sb true)), (16, (AV.v (Value.bool true)))] [] []))) ∧
 ((decide ((((List.length l) : Nat) : Int) > (20 : Int))) = false →
 (Fun W.C W.P 15 [(W.dTri ex l)] [] (W.dSe false (W.madeS (W.toL W.toTri (W.dTri ex l)))) [] ∧
  (∃ (S2 : St), Ent W.C 125 ([] : List Deferred) K (St.mk [(0, (W.dTri ex l)), (1, (AV.i who)), (2, (AV.i seq)), (6, (AV.v (Value.bool false))), (7, (AV.sb true)), (8, (W.dSe false (W.madeS (W.toL W.toTri (W.dTri ex l))))), (16, (AV.v (Value.bool false)))] [] []) S2 ∧ Holds W.C W.P 125 ([] : List Deferred) K Φ (cutAt W.C w_ssr b_ssr [1, 1, 1, 1, 0] S2 (after W.C w_ssr b_ssr [1, 1, 1, 1, 0] [] lf)))))))) := by kernel_rfl
theorem ssr_C5 (l : List Ses) (who seq : Int) (K : Nat) (Φ : Ex → St → Prop) :
  (Holds C P 125 [] K Φ (cutAt C w_ssr b_ssr [1, 1, 1, 1, 0] (S_r5 l who seq) (after C w_ssr b_ssr [1, 1, 1, 1, 0] [] lf))) =
  (Fun W.C W.P 18 [(W.dSe false l), (AV.i who)] [] (AV.i (W.rfI (W.toLS (W.dSe false l)) who)) [] ∧
 (True ∧
 (Fun W.C W.P 14 [(W.dSe false l), (AV.i who), (AV.i seq), (W.rpN (1 : Int))] [] (W.ltA (W.doneL (W.toLS (W.dSe false l)) who seq (W.nrep (1 : Int))) (W.doneE (W.toLS (W.dSe false l)) who seq)) [] ∧
 ((W.Sh2) ∧
 (∃ (S2 : St), Ent W.C 125 ([] : List Deferred) K (St.mk [(1, (AV.i who)), (2, (AV.i seq)), (7, (AV.sb true)), (8, (W.dSe false l)), (9, (AV.i (W.rfI (W.toLS (W.dSe false l)) who))), (10, (AV.ptr 10 []))] [(10, (Blk.c (W.ltA (W.doneL (W.toLS (W.dSe false l)) who seq (W.nrep (1 : Int))) (W.doneE (W.toLS (W.dSe false l)) who seq))))] [10]) S2 ∧ Holds W.C W.P 125 ([] : List Deferred) K Φ (cutAt W.C w_ssr b_ssr [1, 1, 1, 1, 1, 1, 0, 0] S2 (after W.C w_ssr b_ssr [1, 1, 1, 1, 1, 1, 0, 0] [] lf))))))) := by kernel_rfl
theorem ssr_C7 (l : List Ses) (who seq z : Int) (o : LR) (K : Nat) (Φ : Ex → St → Prop) :
  (Holds C P 125 [] K Φ (cutAt C w_ssr b_ssr [1, 1, 1, 1, 1, 1, 0, 0] (S_r7 l who seq z o) (after C w_ssr b_ssr [1, 1, 1, 1, 1, 1, 0, 0] [] lf))) =
  (((decide (z < (0 : Int))) = true →
 (Fun W.C W.P 19 [(W.ltA (Prod.fst o) (Prod.snd o)), (W.ltA l (190 : Int))] [] (AV.sb (W.eqLt ((W.toLS (W.dSe false (Prod.fst o))), (Prod.snd o)) ((W.toLS (W.dSe false l)), (190 : Int)))) [] ∧
  (True ∧
  (((W.eqLt ((W.toLS (W.dSe false (Prod.fst o))), (Prod.snd o)) ((W.toLS (W.dSe false l)), (190 : Int))) = true →
  (Fun W.C W.P 23 [(W.dSe false l), (AV.i who)] [] (W.ltA (W.endL (W.toLS (W.dSe false l)) who) (W.endE (W.toLS (W.dSe false l)) who)) [] ∧
   (Fun W.C W.P 19 [(W.ltA (W.endL (W.toLS (W.dSe false l)) who) (W.endE (W.toLS (W.dSe false l)) who)), (W.ltA l (190 : Int))] [] (AV.sb (W.eqLt ((W.toLS (W.dSe false (W.endL (W.toLS (W.dSe false l)) who))), (W.endE (W.toLS (W.dSe false l)) who)) ((W.toLS (W.dSe false l)), (190 : Int)))) [] ∧
   (True ∧
   (((W.eqLt ((W.toLS (W.dSe false (W.endL (W.toLS (W.dSe false l)) who))), (W.endE (W.toLS (W.dSe false l)) who)) ((W.toLS (W.dSe false l)), (190 : Int))) = true →
   (Fun W.C W.P 13 [(W.dSe false l), (AV.i who), (AV.i seq)] [] (W.lkA (W.seenR (W.toLS (W.dSe false l)) who seq) (W.seenB (W.toLS (W.dSe false l)) who seq) (W.seenE (W.toLS (W.dSe false l)) who seq)) [] ∧
    (Fun W.C W.P 16 [(W.lkA (W.seenR (W.toLS (W.dSe false l)) who seq) (W.seenB (W.toLS (W.dSe false l)) who seq) (W.seenE (W.toLS (W.dSe false l)) who seq)), (AV.st [(W.rpZ), (AV.v (Value.bool false)), (AV.i (190 : Int))])] [] (AV.sb (W.eqLk ((W.toRp (W.rpA (W.seenR (W.toLS (W.dSe false l)) who seq))), ((asB (AV.sb (W.seenB (W.toLS (W.dSe false l)) who seq))), (W.seenE (W.toLS (W.dSe false l)) who seq))) ((W.rp0), (false, (190 : Int))))) [] ∧
    (True ∧
    (∃ (S2 : St), Ent W.C 125 ([] : List Deferred) K (St.mk [(1, (AV.i who)), (2, (AV.i seq)), (7, (AV.sb true)), (8, (W.dSe false l)), (9, (AV.i z)), (10, (AV.ptr 10 [])), (11, (AV.sb (W.eqLk ((W.toRp (W.rpA (W.seenR (W.toLS (W.dSe false l)) who seq))), ((asB (AV.sb (W.seenB (W.toLS (W.dSe false l)) who seq))), (W.seenE (W.toLS (W.dSe false l)) who seq))) ((W.rp0), (false, (190 : Int)))))), (29, (AV.v (Value.bool true)))] [(10, (Blk.c (W.ltA (Prod.fst o) (Prod.snd o))))] [10]) S2 ∧ Holds W.C W.P 125 ([] : List Deferred) K Φ (cutAt W.C w_ssr b_ssr [1, 1, 1, 1, 1, 1, 0, 1, 0, 1, 0] S2 (after W.C w_ssr b_ssr [1, 1, 1, 1, 1, 1, 0, 1, 0, 1, 0] [] lf))))))) ∧
   ((W.eqLt ((W.toLS (W.dSe false (W.endL (W.toLS (W.dSe false l)) who))), (W.endE (W.toLS (W.dSe false l)) who)) ((W.toLS (W.dSe false l)), (190 : Int))) = false →
   (∃ (S2 : St), Ent W.C 125 ([] : List Deferred) K (St.mk [(1, (AV.i who)), (2, (AV.i seq)), (7, (AV.sb true)), (8, (W.dSe false l)), (9, (AV.i z)), (10, (AV.ptr 10 [])), (11, (AV.v (Value.bool false))), (29, (AV.v (Value.bool true)))] [(10, (Blk.c (W.ltA (Prod.fst o) (Prod.snd o))))] [10]) S2 ∧ Holds W.C W.P 125 ([] : List Deferred) K Φ (cutAt W.C w_ssr b_ssr [1, 1, 1, 1, 1, 1, 0, 1, 0, 1, 0] S2 (after W.C w_ssr b_ssr [1, 1, 1, 1, 1, 1, 0, 1, 0, 1, 0] [] lf))))))))) ∧
  ((W.eqLt ((W.toLS (W.dSe false (Prod.fst o))), (Prod.snd o)) ((W.toLS (W.dSe false l)), (190 : Int))) = false →
  (∃ (S2 : St), Ent W.C 125 ([] : List Deferred) K (St.mk [(1, (AV.i who)), (2, (AV.i seq)), (7, (AV.sb true)), (8, (W.dSe false l)), (9, (AV.i z)), (10, (AV.ptr 10 [])), (11, (AV.v (Value.bool false))), (29, (AV.v (Value.bool true)))] [(10, (Blk.c (W.ltA (Prod.fst o) (Prod.snd o))))] [10]) S2 ∧ Holds W.C W.P 125 ([] : List Deferred) K Φ (cutAt W.C w_ssr b_ssr [1, 1, 1, 1, 1, 1, 0, 1, 0, 1, 0] S2 (after W.C w_ssr b_ssr [1, 1, 1, 1, 1, 1, 0, 1, 0, 1, 0] [] lf)))))))) ∧
 ((decide (z < (0 : Int))) = false →
 (∃ (S2 : St), Ent W.C 125 ([] : List Deferred) K (St.mk [(1, (AV.i who)), (2, (AV.i seq)), (7, (AV.sb true)), (8, (W.dSe false l)), (9, (AV.i z)), (10, (AV.ptr 10 [])), (29, (AV.v (Value.bool false)))] [(10, (Blk.c (W.ltA (Prod.fst o) (Prod.snd o))))] [10]) S2 ∧ Holds W.C W.P 125 ([] : List Deferred) K Φ (cutAt W.C w_ssr b_ssr [1, 1, 1, 1, 1, 1, 1, 0, 0] S2 (after W.C w_ssr b_ssr [1, 1, 1, 1, 1, 1, 1, 0, 0] [] lf))))) := by kernel_rfl
theorem ssr_C9 (l : List Ses) (who seq z : Int) (o : LR) (K : Nat) (Φ : Ex → St → Prop) :
  (Holds C P 125 [] K Φ (cutAt C w_ssr b_ssr [1, 1, 1, 1, 1, 1, 0, 1, 0, 1, 0] (S_r9 l who seq z o) (after C w_ssr b_ssr [1, 1, 1, 1, 1, 1, 0, 1, 0, 1, 0] [] lf))) =
  (((decide ((((List.length l) : Nat) : Int) < (8 : Int))) = true →
 (∃ (S2 : St), Ent W.C 125 ([] : List Deferred) K (St.mk [(1, (AV.i who)), (2, (AV.i seq)), (7, (AV.sb true)), (8, (W.dSe false l)), (9, (AV.i z)), (10, (AV.ptr 10 [])), (11, (AV.sb true)), (12, (AV.v (Value.bool true)))] [(10, (Blk.c (W.ltA (Prod.fst o) (Prod.snd o))))] [10]) S2 ∧ Holds W.C W.P 125 ([] : List Deferred) K Φ (cutAt W.C w_ssr b_ssr [1, 1, 1, 1, 1, 1, 0, 1, 0, 1, 1, 0] S2 (after W.C w_ssr b_ssr [1, 1, 1, 1, 1, 1, 0, 1, 0, 1, 1, 0] [] lf)))) ∧
 ((decide ((((List.length l) : Nat) : Int) < (8 : Int))) = false →
 (((decide (who < (0 : Int))) = true →
  (∃ (S2 : St), Ent W.C 125 ([] : List Deferred) K (St.mk [(1, (AV.i who)), (2, (AV.i seq)), (7, (AV.sb true)), (8, (W.dSe false l)), (9, (AV.i z)), (10, (AV.ptr 10 [])), (11, (AV.sb true)), (12, (AV.v (Value.bool true)))] [(10, (Blk.c (W.ltA (Prod.fst o) (Prod.snd o))))] [10]) S2 ∧ Holds W.C W.P 125 ([] : List Deferred) K Φ (cutAt W.C w_ssr b_ssr [1, 1, 1, 1, 1, 1, 0, 1, 0, 1, 1, 0] S2 (after W.C w_ssr b_ssr [1, 1, 1, 1, 1, 1, 0, 1, 0, 1, 1, 0] [] lf)))) ∧
  ((decide (who < (0 : Int))) = false →
  (Fun W.C W.P 11 [(W.dSe false l), (AV.i who)] [] (W.ltA (W.begL (W.toLS (W.dSe false l)) who) (W.begE (W.toLS (W.dSe false l)) who)) [] ∧
   (Fun W.C W.P 19 [(W.ltA (W.begL (W.toLS (W.dSe false l)) who) (W.begE (W.toLS (W.dSe false l)) who)), (W.ltA l (2 : Int))] [] (AV.sb (W.eqLt ((W.toLS (W.dSe false (W.begL (W.toLS (W.dSe false l)) who))), (W.begE (W.toLS (W.dSe false l)) who)) ((W.toLS (W.dSe false l)), (2 : Int)))) [] ∧
   (True ∧
   (∃ (S2 : St), Ent W.C 125 ([] : List Deferred) K (St.mk [(1, (AV.i who)), (2, (AV.i seq)), (7, (AV.sb true)), (8, (W.dSe false l)), (9, (AV.i z)), (10, (AV.ptr 10 [])), (11, (AV.sb true)), (12, (AV.sb (W.eqLt ((W.toLS (W.dSe false (W.begL (W.toLS (W.dSe false l)) who))), (W.begE (W.toLS (W.dSe false l)) who)) ((W.toLS (W.dSe false l)), (2 : Int)))))] [(10, (Blk.c (W.ltA (Prod.fst o) (Prod.snd o))))] [10]) S2 ∧ Holds W.C W.P 125 ([] : List Deferred) K Φ (cutAt W.C w_ssr b_ssr [1, 1, 1, 1, 1, 1, 0, 1, 0, 1, 1, 0] S2 (after W.C w_ssr b_ssr [1, 1, 1, 1, 1, 1, 0, 1, 0, 1, 1, 0] [] lf)))))))))) := by kernel_rfl
theorem ssr_C10 (l : List Ses) (who seq z : Int) (o : LR) (K : Nat) (Φ : Ex → St → Prop) :
  (Holds C P 125 [] K Φ (cutAt C w_ssr b_ssr [1, 1, 1, 1, 1, 1, 0, 1, 0, 1, 1, 0] (S_r10 l who seq z o) (after C w_ssr b_ssr [1, 1, 1, 1, 1, 1, 0, 1, 0, 1, 1, 0] [] lf))) =
  ((true = true →
 ((true = true →
  (((decide (who ≥ (0 : Int))) = true →
   (Φ Ex.ret (St.mk [(1, (AV.i who)), (2, (AV.i seq)), (6, (AV.sb true)), (7, (AV.sb true)), (8, (W.dSe false l)), (9, (AV.i z)), (10, (AV.ptr 10 [])), (11, (AV.sb true)), (12, (AV.sb true))] [(10, (Blk.c (W.ltA (Prod.fst o) (Prod.snd o))))] [10]))) ∧
   ((decide (who ≥ (0 : Int))) = false →
   (Fun W.C W.P 11 [(W.dSe false l), (AV.i who)] [] (W.ltA (W.begL (W.toLS (W.dSe false l)) who) (W.begE (W.toLS (W.dSe false l)) who)) [] ∧
    (Fun W.C W.P 19 [(W.ltA (W.begL (W.toLS (W.dSe false l)) who) (W.begE (W.toLS (W.dSe false l)) who)), (W.ltA l (1 : Int))] [] (AV.sb (W.eqLt ((W.toLS (W.dSe false (W.begL (W.toLS (W.dSe false l)) who))), (W.begE (W.toLS (W.dSe false l)) who)) ((W.toLS (W.dSe false l)), (1 : Int)))) [] ∧
    (True ∧
    (((W.eqLt ((W.toLS (W.dSe false (W.begL (W.toLS (W.dSe false l)) who))), (W.begE (W.toLS (W.dSe false l)) who)) ((W.toLS (W.dSe false l)), (1 : Int))) = true →
    (Φ Ex.ret (St.mk [(1, (AV.i who)), (2, (AV.i seq)), (6, (AV.sb true)), (7, (AV.sb true)), (8, (W.dSe false l)), (9, (AV.i z)), (10, (AV.ptr 10 [])), (11, (AV.sb true)), (12, (AV.sb true))] [(10, (Blk.c (W.ltA (Prod.fst o) (Prod.snd o))))] [10]))) ∧
    ((W.eqLt ((W.toLS (W.dSe false (W.begL (W.toLS (W.dSe false l)) who))), (W.begE (W.toLS (W.dSe false l)) who)) ((W.toLS (W.dSe false l)), (1 : Int))) = false →
    (Φ Ex.ret (St.mk [(1, (AV.i who)), (2, (AV.i seq)), (6, (AV.v (Value.bool false))), (7, (AV.sb true)), (8, (W.dSe false l)), (9, (AV.i z)), (10, (AV.ptr 10 [])), (11, (AV.sb true)), (12, (AV.sb true))] [(10, (Blk.c (W.ltA (Prod.fst o) (Prod.snd o))))] [10])))))))))) ∧
  (true = false →
  (Φ Ex.ret (St.mk [(1, (AV.i who)), (2, (AV.i seq)), (6, (AV.v (Value.bool false))), (7, (AV.sb true)), (8, (W.dSe false l)), (9, (AV.i z)), (10, (AV.ptr 10 [])), (11, (AV.sb true)), (12, (AV.sb true))] [(10, (Blk.c (W.ltA (Prod.fst o) (Prod.snd o))))] [10]))))) ∧
 (true = false →
 (Φ Ex.ret (St.mk [(1, (AV.i who)), (2, (AV.i seq)), (6, (AV.v (Value.bool false))), (7, (AV.sb true)), (8, (W.dSe false l)), (9, (AV.i z)), (10, (AV.ptr 10 [])), (11, (AV.sb true)), (12, (AV.sb true))] [(10, (Blk.c (W.ltA (Prod.fst o) (Prod.snd o))))] [10])))) := by kernel_rfl
theorem ssr_C11 (l : List Ses) (who seq : Int) (k : Nat) (o : LR) (K : Nat) (Φ : Ex → St → Prop) :
  (Holds C P 125 [] K Φ (cutAt C w_ssr b_ssr [1, 1, 1, 1, 1, 1, 1, 0, 0] (S_r11 l who seq k o) (after C w_ssr b_ssr [1, 1, 1, 1, 1, 1, 1, 0, 0] [] lf))) =
  ((((0 : Int) ≤ ((k : Nat) : Int)) ∧ (((k : Nat) : Int) < (((List.length l) : Nat) : Int))) ∧
 ((I64 ((W.Ses.seq (W.seAt l k)) + (1 : Int))) ∧
 (((seq != ((W.Ses.seq (W.seAt l k)) + (1 : Int))) = true →
 (Fun W.C W.P 19 [(W.ltA (Prod.fst o) (Prod.snd o)), (W.ltA l (190 : Int))] [] (AV.sb (W.eqLt ((W.toLS (W.dSe false (Prod.fst o))), (Prod.snd o)) ((W.toLS (W.dSe false l)), (190 : Int)))) [] ∧
  (True ∧
  (((! (W.eqLt ((W.toLS (W.dSe false (Prod.fst o))), (Prod.snd o)) ((W.toLS (W.dSe false l)), (190 : Int)))) = true →
  (Φ Ex.ret (St.mk [(1, (AV.i who)), (2, (AV.i seq)), (6, (AV.v (Value.bool false))), (7, (AV.sb true)), (8, (W.dSe false l)), (9, (AV.i ((k : Nat) : Int))), (10, (AV.ptr 10 [])), (98, (AV.v (Value.bool true)))] [(10, (Blk.c (W.ltA (Prod.fst o) (Prod.snd o))))] [10]))) ∧
  ((! (W.eqLt ((W.toLS (W.dSe false (Prod.fst o))), (Prod.snd o)) ((W.toLS (W.dSe false l)), (190 : Int)))) = false →
  (∃ (S2 : St), Ent W.C 125 ([] : List Deferred) K (St.mk [(1, (AV.i who)), (2, (AV.i seq)), (7, (AV.sb true)), (8, (W.dSe false l)), (9, (AV.i ((k : Nat) : Int))), (10, (AV.ptr 10 [])), (98, (AV.v (Value.bool false)))] [(10, (Blk.c (W.ltA (Prod.fst o) (Prod.snd o))))] [10]) S2 ∧ Holds W.C W.P 125 ([] : List Deferred) K Φ (cutAt W.C w_ssr b_ssr [1, 1, 1, 1, 1, 1, 1, 1, 0] S2 (after W.C w_ssr b_ssr [1, 1, 1, 1, 1, 1, 1, 1, 0] [] lf)))))))) ∧
 ((seq != ((W.Ses.seq (W.seAt l k)) + (1 : Int))) = false →
 (∃ (S2 : St), Ent W.C 125 ([] : List Deferred) K (St.mk [(1, (AV.i who)), (2, (AV.i seq)), (7, (AV.sb true)), (8, (W.dSe false l)), (9, (AV.i ((k : Nat) : Int))), (10, (AV.ptr 10 [])), (98, (AV.v (Value.bool false)))] [(10, (Blk.c (W.ltA (Prod.fst o) (Prod.snd o))))] [10]) S2 ∧ Holds W.C W.P 125 ([] : List Deferred) K Φ (cutAt W.C w_ssr b_ssr [1, 1, 1, 1, 1, 1, 1, 1, 0] S2 (after W.C w_ssr b_ssr [1, 1, 1, 1, 1, 1, 1, 1, 0] [] lf))))))) := by kernel_rfl
theorem ssr_C13 (l : List Ses) (who seq : Int) (k : Nat) (o : LR) (K : Nat) (Φ : Ex → St → Prop) :
  (Holds C P 125 [] K Φ (cutAt C w_ssr b_ssr [1, 1, 1, 1, 1, 1, 1, 1, 0] (S_r11 l who seq k o) (after C w_ssr b_ssr [1, 1, 1, 1, 1, 1, 1, 1, 0] [] lf))) =
  (Fun W.C W.P 11 [(W.dSe false l), (AV.i who)] [] (W.ltA (W.begL (W.toLS (W.dSe false l)) who) (W.begE (W.toLS (W.dSe false l)) who)) [] ∧
 (Fun W.C W.P 19 [(W.ltA (W.begL (W.toLS (W.dSe false l)) who) (W.begE (W.toLS (W.dSe false l)) who)), (W.ltA l (190 : Int))] [] (AV.sb (W.eqLt ((W.toLS (W.dSe false (W.begL (W.toLS (W.dSe false l)) who))), (W.begE (W.toLS (W.dSe false l)) who)) ((W.toLS (W.dSe false l)), (190 : Int)))) [] ∧
 (True ∧
 (((W.eqLt ((W.toLS (W.dSe false (W.begL (W.toLS (W.dSe false l)) who))), (W.begE (W.toLS (W.dSe false l)) who)) ((W.toLS (W.dSe false l)), (190 : Int))) = true →
 ((((0 : Int) ≤ ((k : Nat) : Int)) ∧ (((k : Nat) : Int) < (((List.length l) : Nat) : Int))) ∧
  (((decide ((W.Ses.seq (W.seAt l k)) < (1000000000 : Int))) = true →
  (Φ Ex.ret (St.mk [(1, (AV.i who)), (2, (AV.i seq)), (6, (AV.sb true)), (7, (AV.sb true)), (8, (W.dSe false l)), (9, (AV.i ((k : Nat) : Int))), (10, (AV.ptr 10 []))] [(10, (Blk.c (W.ltA (Prod.fst o) (Prod.snd o))))] [10]))) ∧
  ((decide ((W.Ses.seq (W.seAt l k)) < (1000000000 : Int))) = false →
  (Fun W.C W.P 14 [(W.dSe false l), (AV.i who), (AV.i (1000000001 : Int)), (W.rpZ)] [] (W.ltA (W.doneL (W.toLS (W.dSe false l)) who (1000000001 : Int) (W.rp0)) (W.doneE (W.toLS (W.dSe false l)) who (1000000001 : Int))) [] ∧
   (Fun W.C W.P 19 [(W.ltA (W.doneL (W.toLS (W.dSe false l)) who (1000000001 : Int) (W.rp0)) (W.doneE (W.toLS (W.dSe false l)) who (1000000001 : Int))), (W.ltA l (2 : Int))] [] (AV.sb (W.eqLt ((W.toLS (W.dSe false (W.doneL (W.toLS (W.dSe false l)) who (1000000001 : Int) (W.rp0)))), (W.doneE (W.toLS (W.dSe false l)) who (1000000001 : Int))) ((W.toLS (W.dSe false l)), (2 : Int)))) [] ∧
   (True ∧
   (((W.eqLt ((W.toLS (W.dSe false (W.doneL (W.toLS (W.dSe false l)) who (1000000001 : Int) (W.rp0)))), (W.doneE (W.toLS (W.dSe false l)) who (1000000001 : Int))) ((W.toLS (W.dSe false l)), (2 : Int))) = true →
   (Φ Ex.ret (St.mk [(1, (AV.i who)), (2, (AV.i seq)), (6, (AV.sb true)), (7, (AV.sb true)), (8, (W.dSe false l)), (9, (AV.i ((k : Nat) : Int))), (10, (AV.ptr 10 []))] [(10, (Blk.c (W.ltA (Prod.fst o) (Prod.snd o))))] [10]))) ∧
   ((W.eqLt ((W.toLS (W.dSe false (W.doneL (W.toLS (W.dSe false l)) who (1000000001 : Int) (W.rp0)))), (W.doneE (W.toLS (W.dSe false l)) who (1000000001 : Int))) ((W.toLS (W.dSe false l)), (2 : Int))) = false →
   (Φ Ex.ret (St.mk [(1, (AV.i who)), (2, (AV.i seq)), (6, (AV.v (Value.bool false))), (7, (AV.sb true)), (8, (W.dSe false l)), (9, (AV.i ((k : Nat) : Int))), (10, (AV.ptr 10 []))] [(10, (Blk.c (W.ltA (Prod.fst o) (Prod.snd o))))] [10]))))))))))) ∧
 ((W.eqLt ((W.toLS (W.dSe false (W.begL (W.toLS (W.dSe false l)) who))), (W.begE (W.toLS (W.dSe false l)) who)) ((W.toLS (W.dSe false l)), (190 : Int))) = false →
 (Φ Ex.ret (St.mk [(1, (AV.i who)), (2, (AV.i seq)), (6, (AV.v (Value.bool false))), (7, (AV.sb true)), (8, (W.dSe false l)), (9, (AV.i ((k : Nat) : Int))), (10, (AV.ptr 10 []))] [(10, (Blk.c (W.ltA (Prod.fst o) (Prod.snd o))))] [10]))))))) := by kernel_rfl
theorem ssr_13 {l : List Ses} (hv : VS l) (who seq : Int) (hh : hasS l who = true) (o : LR) : Holds C P 125 [] 0 (FunPost C 125 0 [.tmp 6] (.sb true) []) (cutAt C w_ssr b_ssr [1, 1, 1, 1, 1, 1, 1, 1, 0] (S_r11 l who seq (posS l who) o) (after C w_ssr b_ssr [1, 1, 1, 1, 1, 1, 1, 1, 0] [] lf)) := by
  have hp := (hv.has hh).1
  have hw := (hv.at hp).1
  have hq := (hv.at hp).2.2.1
  have hwho : (seAt l (posS l who)).who = who := (hv.has hh).2
  refine of_eq (ssr_C13 l who seq (posS l who) o 0 _) ?_
  simp only [toSeL]
  have b1 : begE l who = 190 := by unfold begE; rw [if_neg (by omega), hh]; rfl
  have b2 : begL l who = l := beg_no (by omega)
  have q1 := eqLt_r (l, 190)
  rw [b1, b2, q1]
  refine ⟨beg_is hv b1 b2, sameT_is hv q1, trivial, fun _ => ⟨(by first | omega | decide | (unfold I64; omega)), fun _ => post_tmp rfl (sm_sb rfl), fun h => ?_⟩, fun h => (nb_no h).elim⟩
  have h := of_decide_eq_false h
  have hs9 : (atS l who).seq = 1000000000 := by show (seAt l (posS l who)).seq = _; omega
  have d1 : doneE l who 1000000001 = 2 := by unfold doneE; rw [hh, hs9]; rfl
  have d2 : doneL l who 1000000001 rp0 = l := by unfold doneL; rw [d1]; rfl
  have q2 := eqLt_r (l, 2)
  rw [d1, d2, q2]
  exact ⟨(done_is hv d1 d2).sim ⟨sm_same rfl, sm_same rfl, sm_same rfl, .inr sm_rpZ', trivial⟩ trivial, sameT_is hv q2, trivial, fun _ => post_tmp rfl (sm_sb rfl), fun h => (nb_no h).elim⟩
theorem ssr_fun (ex : Bool) (l : List Tri) (hl : ∀ x, x ∈ l → Tri8 x) (hn : l.length ≤ maxLen) (who seq : Int) : Fun C P F_ssr [dTri ex l, .i who, .i seq] [] (.sb true) [] := by
  refine in_ssr (W := w_ssr) rfl 0 (by simp) rfl (fun id h => absurd rfl h) ?_
  refine of_eq (ssr_A ex l who seq 0 _) ?_
  rw [toTris_A]
  refine ⟨sanity_fun, trivial, fun _ => post_tmp rfl (sm_sb rfl), fun h20 => ⟨made_fun ex l hl (by have := of_decide_eq_false h20; omega), ?_⟩⟩
  have hv := vs_made l
  generalize madeS l = l at hv
  refine ⟨S_r5 l who seq, ent_of [] rfl (tm_cons rfl (sm_same rfl) (tm_cons rfl (sm_same rfl) (tm_cons rfl (sm_same rfl) (tm_cons rfl (sm_same rfl) tm_nil)))) hp_nil, ?_⟩
  refine of_eq (ssr_C5 l who seq 0 _) ?_
  simp only [toSeL]
  refine ⟨rfind_fun false hv who, trivial, (done_fun false hv who seq (nrep 1)).sim ⟨sm_same rfl, sm_same rfl, sm_same rfl, .inr (sm_rpN _), trivial⟩ trivial, sh2_t, ?_⟩
  refine ⟨S_r7 l who seq (rfI l who) (doneL l who seq (nrep 1), doneE l who seq), ent_of [(10, 10)] rfl (tm_cons rfl (sm_same rfl) (tm_cons rfl (sm_same rfl) (tm_cons rfl (sm_same rfl) (tm_cons rfl (sm_same rfl) (tm_cons rfl (sm_same rfl) (tm_cons rfl (sm_ptr rfl) tm_nil)))))) (hp_cons rfl rfl (sm_same rfl) hp_nil), ?_⟩
  refine of_eq (ssr_C7 l who seq _ _ 0 _) ?_
  simp only [toSeL, toRp_A]
  have a1 : ∀ b, asB (AV.sb b) = b := fun _ => rfl
  rw [a1]
  rcases (hv.rf who).symm with ⟨hh, hr⟩ | ⟨hh, hr, hp, hw⟩
  · rw [hr]
    obtain ⟨g1, ⟨g2, g3⟩, g4, g5, g6⟩ := gone hh seq
    rw [(g1 (nrep 1)).1, (g1 (nrep 1)).2]
    have q1 := eqLt_r (l, 190)
    have q2 := eqLk_r (rp0, false, 190)
    rw [g2, g3, g4, g5, g6, q1, q2]
    have hse := sameT_is hv q1
    refine ⟨fun _ => ⟨hse, trivial, fun _ => ⟨end_is hv g3 g2, hse, trivial, fun _ => ⟨seen_is hv g6 g5 g4, (sameL_is rp0_ok q2).sim ⟨sm_same rfl, .inr ⟨.inr sm_rpZ', sm_b rfl, sm_int rfl, trivial⟩, trivial⟩ trivial, trivial, ?_⟩, fun h => (nb_no h).elim⟩, fun h => (nb_no h).elim⟩, fun h => (nb_no h).elim⟩
    refine ⟨S_r9 l who seq (-1) (l, 190), ent_of [(10, 10)] rfl (tm_cons rfl (sm_same rfl) (tm_cons rfl (sm_same rfl) (tm_cons rfl (sm_same rfl) (tm_cons rfl (sm_same rfl) (tm_cons rfl (sm_same rfl) (tm_cons rfl (sm_ptr rfl) (tm_cons rfl (sm_same rfl) tm_nil))))))) (hp_cons rfl rfl (sm_same rfl) hp_nil), ?_⟩
    have k10 : Holds C P 125 [] 0 (FunPost C 125 0 [.tmp 6] (.sb true) []) (cutAt C w_ssr b_ssr [1, 1, 1, 1, 1, 1, 0, 1, 0, 1, 1, 0] (S_r10 l who seq (-1) (l, 190)) (after C w_ssr b_ssr [1, 1, 1, 1, 1, 1, 0, 1, 0, 1, 1, 0] [] lf)) := by
      refine of_eq (ssr_C10 l who seq (-1) (l, 190) 0 _) ?_
      simp only [toSeL]
      refine ⟨fun _ => ⟨fun _ => ⟨fun _ => post_tmp rfl (sm_sb rfl), fun h => ?_⟩, fun h => (nb_no h).elim⟩, fun h => (nb_no h).elim⟩
      have h := of_decide_eq_false h
      have b1 : begE l who = 1 := by unfold begE; rw [if_pos (by omega)]
      have b2 : begL l who = l := beg_no (by omega)
      have q3 := eqLt_r (l, 1)
      rw [b1, b2, q3]
      exact ⟨beg_is hv b1 b2, sameT_is hv q3, trivial, fun _ => post_tmp rfl (sm_sb rfl), fun h => (nb_no h).elim⟩
    refine of_eq (ssr_C9 l who seq (-1) (l, 190) 0 _) ?_
    simp only [toSeL]
    refine ⟨fun _ => ⟨S_r10 l who seq (-1) (l, 190), ent_of [(10, 10)] rfl (tm_cons rfl (sm_same rfl) (tm_cons rfl (sm_same rfl) (tm_cons rfl (sm_same rfl) (tm_cons rfl (sm_same rfl) (tm_cons rfl (sm_same rfl) (tm_cons rfl (sm_ptr rfl) (tm_cons rfl (sm_same rfl) (tm_cons rfl (sm_b rfl) tm_nil)))))))) (hp_cons rfl rfl (sm_same rfl) hp_nil), k10⟩, fun h8 => ⟨fun _ => ⟨S_r10 l who seq (-1) (l, 190), ent_of [(10, 10)] rfl (tm_cons rfl (sm_same rfl) (tm_cons rfl (sm_same rfl) (tm_cons rfl (sm_same rfl) (tm_cons rfl (sm_same rfl) (tm_cons rfl (sm_same rfl) (tm_cons rfl (sm_ptr rfl) (tm_cons rfl (sm_same rfl) (tm_cons rfl (sm_b rfl) tm_nil)))))))) (hp_cons rfl rfl (sm_same rfl) hp_nil), k10⟩, fun h => ?_⟩⟩
    have h := of_decide_eq_false h
    have h8 := of_decide_eq_false h8
    have := hv.2.2
    have b1 : begE l who = 2 := by unfold begE; rw [if_neg h, hh, if_neg (by simp), if_pos (by omega)]
    have b2 : begL l who = l := beg_no (by omega)
    have q3 := eqLt_r (l, 2)
    rw [b1, b2, q3]
    exact ⟨beg_is hv b1 b2, sameT_is hv q3, trivial, S_r10 l who seq (-1) (l, 190), ent_of [(10, 10)] rfl (tm_cons rfl (sm_same rfl) (tm_cons rfl (sm_same rfl) (tm_cons rfl (sm_same rfl) (tm_cons rfl (sm_same rfl) (tm_cons rfl (sm_same rfl) (tm_cons rfl (sm_ptr rfl) (tm_cons rfl (sm_same rfl) (tm_cons rfl (sm_same rfl) tm_nil)))))))) (hp_cons rfl rfl (sm_same rfl) hp_nil), k10⟩
  · rw [hr]
    refine ⟨fun h => ?_, fun _ => ?_⟩
    · have := of_decide_eq_true h; omega
    refine ⟨S_r11 l who seq (posS l who) (doneL l who seq (nrep 1), doneE l who seq), ent_of [(10, 10)] rfl (tm_cons rfl (sm_same rfl) (tm_cons rfl (sm_same rfl) (tm_cons rfl (sm_same rfl) (tm_cons rfl (sm_same rfl) (tm_cons rfl (sm_same rfl) (tm_cons rfl (sm_ptr rfl) tm_nil)))))) (hp_cons rfl rfl (sm_same rfl) hp_nil), ?_⟩
    refine of_eq (ssr_C11 l who seq _ _ 0 _) ?_
    simp only [toSeL]
    have hq := (hv.at hp).2.1
    have hq2 := (hv.at hp).2.2.1
    refine ⟨(by first | omega | decide | (unfold I64; omega)), (by first | omega | decide | (unfold I64; omega)), fun hne => ?_, fun _ => ⟨S_r11 l who seq (posS l who) (doneL l who seq (nrep 1), doneE l who seq), ent_of [(10, 10)] rfl (tm_cons rfl (sm_same rfl) (tm_cons rfl (sm_same rfl) (tm_cons rfl (sm_same rfl) (tm_cons rfl (sm_same rfl) (tm_cons rfl (sm_same rfl) (tm_cons rfl (sm_ptr rfl) tm_nil)))))) (hp_cons rfl rfl (sm_same rfl) hp_nil), ssr_13 hv who seq hh _⟩⟩
    have hne : seq ≠ (seAt l (posS l who)).seq + 1 := by simpa using hne
    have hne : seq ≠ (atS l who).seq + 1 := hne
    have e1 : doneE l who seq = 190 := by unfold doneE; rw [if_pos (.inr hne)]
    have e2 : doneL l who seq (nrep 1) = l := by unfold doneL; rw [e1]; rfl
    rw [e1, e2]
    have q1 := eqLt_r (l, 190)
    rw [q1]
    exact ⟨sameT_is hv q1, trivial, fun h => (nt_no rfl h).elim, fun _ => ⟨S_r11 l who seq (posS l who) (l, 190), ent_of [(10, 10)] rfl (tm_cons rfl (sm_same rfl) (tm_cons rfl (sm_same rfl) (tm_cons rfl (sm_same rfl) (tm_cons rfl (sm_same rfl) (tm_cons rfl (sm_same rfl) (tm_cons rfl (sm_ptr rfl) tm_nil)))))) (hp_cons rfl rfl (sm_same rfl) hp_nil), ssr_13 hv who seq hh _⟩⟩
theorem ssr_law {x0 x1 x2 : AV} (h0 : Typed C.tt 6 45 x0) (h1 : Typed C.tt 6 3 x1) (h2 : Typed C.tt 6 3 x2) : Fun C P F_ssr [x0, x1, x2] [] (.sb true) [] := by
  obtain ⟨l, ex, hl, h8, s0⟩ := typed_tris h0
  obtain ⟨who, rfl, _⟩ := typed_i64 rfl h1
  obtain ⟨seq, rfl, _⟩ := typed_i64 rfl h2
  exact (ssr_fun ex l h8 hl who seq).sim ⟨s0, sm_same rfl, sm_same rfl, trivial⟩ trivial
end Go.Bu.W

