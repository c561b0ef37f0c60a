/- NetCuts. -/
import Derived.Test.YtjfggjlbnmdceaaKNR
namespace Go.Bu.W
def wayLc (keep : List Nat) (nt : Nat) (cuts : List Nat) : Way := ⟨crN9, byrefI, keep, [], nt, cuts⟩
def w_nlc : Way := wayLc [0, 1, 3, 4, 5, 6, 7, 8, 9, 10, 11, 12, 13, 14, 15, 16, 17, 18, 19, 20, 34, 119, 124, 210, 212, 216, 262] 289 [3,6,13,14,23,25]
abbrev NN : Type := Nat × Nat
abbrev twA (p : NN) : AV := .arr 2 1 (fun j => u8 (two p.1 p.2 j))
abbrev TK : Type := Net × Pk × Int
def S_lc3 (n : Net) (a b : Nat) : St := { tm := [(5, .sb true), (6, .ptr 6 []), (7, i64 a), (8, i64 b)], hp := [(6, .c (netD n))], seen := [6] }
def S_lc6 (n : Net) (a b : Nat) (s h : TK) : St := { tm := [(5, .sb true), (6, .ptr 6 []), (7, i64 a), (8, i64 b), (9, .ptr 9 []), (10, .ptr 10 [])], hp := [(6, .c (netD n)), (9, .c (sT s)), (10, .c (sT h))], seen := [6, 9, 10] }
def I_lc0 (n : Net) (a b : Nat) (s h : TK) (i : Nat) : St := { tm := [(5, .sb true), (6, .ptr 6 []), (7, i64 a), (8, i64 b), (9, .ptr 9 []), (10, .ptr 10 []), (11, i64 i)], hp := [(6, .c (netD n)), (9, .c (sT s)), (10, .c (sT h))], seen := [6, 9, 10] }
def S_lc13 (n : Net) (a b : Nat) (s h : TK) (i : Nat) (p : Pk) (bw : Bool) : St := { tm := [(5, .sb true), (6, .ptr 6 []), (7, i64 a), (8, i64 b), (9, .ptr 9 []), (10, .ptr 10 []), (11, i64 i), (12, .ptr 12 []), (13, .sb bw)], hp := [(6, .c (netD n)), (9, .c (sT s)), (10, .c (sT h)), (12, .c (pkA p))], seen := [6, 9, 10, 12] }
def S_lc14 (n : Net) (a b : Nat) (s h : TK) (i : Nat) (p : Pk) (bw : Bool) (x y z : TK) : St := { tm := [(5, .sb true), (6, .ptr 6 []), (7, i64 a), (8, i64 b), (9, .ptr 9 []), (10, .ptr 10 []), (11, i64 i), (12, .ptr 12 []), (13, .sb bw), (14, .ptr 14 []), (15, .ptr 15 []), (16, .ptr 16 [])], hp := [(6, .c (netD n)), (9, .c (sT s)), (10, .c (sT h)), (12, .c (pkA p)), (14, .c (sT x)), (15, .c (sT y)), (16, .c (sT z))], seen := [6, 9, 10, 12, 14, 15, 16] }
def I_lc1 (n : Net) (a b : Nat) (s h : TK) (c : Nat) : St := { tm := [(5, .sb true), (6, .ptr 6 []), (7, i64 a), (8, i64 b), (9, .ptr 9 []), (10, .ptr 10 []), (17, i64 c)], hp := [(6, .c (netD n)), (9, .c (sT s)), (10, .c (sT h))], seen := [6, 9, 10] }
def I_lc2 (n : Net) (a b : Nat) (s h : TK) (c : Nat) (d : Nat) : St := { tm := [(5, .sb true), (6, .ptr 6 []), (7, i64 a), (8, i64 b), (9, .ptr 9 []), (10, .ptr 10 []), (17, i64 c), (18, i64 d)], hp := [(6, .c (netD n)), (9, .c (sT s)), (10, .c (sT h))], seen := [6, 9, 10] }
def S_lc23 (n : Net) (a b : Nat) (s h : TK) (c d : Nat) (sm : Bool) : St := { tm := [(5, .sb true), (6, .ptr 6 []), (7, i64 a), (8, i64 b), (9, .ptr 9 []), (10, .ptr 10 []), (17, i64 c), (18, i64 d), (19, .sb sm)], hp := [(6, .c (netD n)), (9, .c (sT s)), (10, .c (sT h))], seen := [6, 9, 10] }

theorem nlc_A (ex : Bool) (l : List Tri) (w : NN) (K : Nat) (Φ : Ex → St → Prop) :
  (Holds C P 289 [] K Φ (vc C w_nlc b_nlc [] (start [dTri ex l, twA w] []) lf)) =
  (Fun W.C W.P 11 [] [] (AV.sb true) [] ∧
 (True ∧
 (Fun W.C W.P 12 [(W.dTri ex l)] [] (W.netA false false (W.madeN (W.tlL l))) [] ∧
 ((((0 : Int) ≤ (0 : Int)) ∧ ((0 : Int) < (2 : Int))) ∧
 (((5 : Int) ≠ (0 : Int)) ∧
 ((I64 ((((W.two (Prod.fst w) (Prod.snd w) 0) % 5) : Nat) : Int)) ∧
 ((((0 : Int) ≤ (1 : Int)) ∧ ((1 : Int) < (2 : Int))) ∧
 (((5 : Int) ≠ (0 : Int)) ∧
 ((I64 ((((W.two (Prod.fst w) (Prod.snd w) 1) % 5) : Nat) : Int)) ∧
 ((W.ShK) ∧
 (∃ (S2 : St), Ent W.C 289 [] K (St.mk [(0, (W.dTri ex l)), (1, (AV.arr 2 1 (fun (j : Nat) => (AV.v (Value.int IntKind.u8 (((W.two (Prod.fst w) (Prod.snd w) j) : Nat) : Int)))))), (3, (AV.ptr 3 [])), (4, (AV.v (Value.bool false))), (5, (AV.sb true)), (6, (AV.ptr 6 [])), (7, (AV.i ((((W.two (Prod.fst w) (Prod.snd w) 0) % 5) : Nat) : Int))), (8, (AV.i ((((W.two (Prod.fst w) (Prod.snd w) 1) % 5) : Nat) : Int)))] [(3, (Blk.c (AV.arr 2 1 (fun (j : Nat) => (AV.v (Value.int IntKind.u8 (((W.two (Prod.fst w) (Prod.snd w) j) : Nat) : Int))))))), (6, (Blk.c (W.netA false false (W.madeN (W.tlL l)))))] [6, 3]) S2 ∧ Holds W.C W.P 289 [] K Φ (cutAt W.C w_nlc b_nlc [1, 1, 1, 0, 0] S2 (after W.C w_nlc b_nlc [1, 1, 1, 0, 0] [] lf))))))))))))) := by kernel_rfl
theorem nlc_C3 (n : Net) (a b : Nat) (K : Nat) (Φ : Ex → St → Prop) :
  (Holds C P 289 [] K Φ (cutAt C w_nlc b_nlc [1, 1, 1, 0, 0] (S_lc3 n a b) (after C w_nlc b_nlc [1, 1, 1, 0, 0] [] lf))) =
  (((((a : Nat) : Int) == ((b : Nat) : Int)) = true →
 (Fun W.C W.P 21 [(W.netA false false n), (AV.i (2 : Int)), (AV.arr 2 1 (layParts (fun (x : Nat) => (AV.i (0 : Int))) [(0, (AV.i ((a : Nat) : Int))), (1, (AV.i ((b : Nat) : Int)))]))] [] (AV.st [(W.netA false false (W.doneN (W.toN (W.netA false false n)) (2 : Int) (((a : Nat) : Int), ((b : Nat) : Int)))), (AV.st [(AV.i (0 : Int)), (AV.i (0 : Int)), (AV.i (0 : Int))]), (AV.i (W.doneE (W.toN (W.netA false false n)) (2 : Int) (((a : Nat) : Int), ((b : Nat) : Int))))]) [] ∧
  ((((W.doneE (W.toN (W.netA false false n)) (2 : Int) (((a : Nat) : Int), ((b : Nat) : Int))) == (1 : Int)) = true →
  (Fun W.C W.P 21 [(W.netA false false n), (AV.i (3 : Int)), (AV.arr 2 1 (layParts (fun (x : Nat) => (AV.i (0 : Int))) [(0, (AV.i ((a : Nat) : Int))), (1, (AV.i ((b : Nat) : Int)))]))] [] (AV.st [(W.netA false false (W.doneN (W.toN (W.netA false false n)) (3 : Int) (((a : Nat) : Int), ((b : Nat) : Int)))), (AV.st [(AV.i (0 : Int)), (AV.i (0 : Int)), (AV.i (0 : Int))]), (AV.i (W.doneE (W.toN (W.netA false false n)) (3 : Int) (((a : Nat) : Int), ((b : Nat) : Int))))]) [] ∧
   ((((W.doneE (W.toN (W.netA false false n)) (3 : Int) (((a : Nat) : Int), ((b : Nat) : Int))) == (1 : Int)) = true →
   (Fun W.C W.P 19 [(W.netA false false n), (AV.i ((a : Nat) : Int)), (AV.i ((b : Nat) : Int))] [] (AV.sb (W.reachN (W.toN (W.netA false false n)) ((a : Nat) : Int) ((b : Nat) : Int))) [] ∧
    (True ∧
    (((W.reachN (W.toN (W.netA false false n)) ((a : Nat) : Int) ((b : Nat) : Int)) = true →
    (Φ Ex.ret (St.mk [(4, (AV.sb true)), (5, (AV.sb true)), (6, (AV.ptr 6 [])), (7, (AV.i ((a : Nat) : Int))), (8, (AV.i ((b : Nat) : Int))), (34, (AV.v (Value.bool true)))] [(6, (Blk.c (W.netA false false n)))] [6]))) ∧
    ((W.reachN (W.toN (W.netA false false n)) ((a : Nat) : Int) ((b : Nat) : Int)) = false →
    (Φ Ex.ret (St.mk [(4, (AV.v (Value.bool false))), (5, (AV.sb true)), (6, (AV.ptr 6 [])), (7, (AV.i ((a : Nat) : Int))), (8, (AV.i ((b : Nat) : Int))), (34, (AV.v (Value.bool true)))] [(6, (Blk.c (W.netA false false n)))] [6]))))))) ∧
   (((W.doneE (W.toN (W.netA false false n)) (3 : Int) (((a : Nat) : Int), ((b : Nat) : Int))) == (1 : Int)) = false →
   (Φ Ex.ret (St.mk [(4, (AV.v (Value.bool false))), (5, (AV.sb true)), (6, (AV.ptr 6 [])), (7, (AV.i ((a : Nat) : Int))), (8, (AV.i ((b : Nat) : Int))), (34, (AV.v (Value.bool true)))] [(6, (Blk.c (W.netA false false n)))] [6])))))) ∧
  (((W.doneE (W.toN (W.netA false false n)) (2 : Int) (((a : Nat) : Int), ((b : Nat) : Int))) == (1 : Int)) = false →
  (Φ Ex.ret (St.mk [(4, (AV.v (Value.bool false))), (5, (AV.sb true)), (6, (AV.ptr 6 [])), (7, (AV.i ((a : Nat) : Int))), (8, (AV.i ((b : Nat) : Int))), (34, (AV.v (Value.bool true)))] [(6, (Blk.c (W.netA false false n)))] [6])))))) ∧
 ((((a : Nat) : Int) == ((b : Nat) : Int)) = false →
 (Fun W.C W.P 21 [(W.netA false false n), (AV.i (2 : Int)), (AV.arr 2 1 (layParts (fun (x : Nat) => (AV.i (0 : Int))) [(0, (AV.i ((a : Nat) : Int))), (1, (AV.i ((b : Nat) : Int)))]))] [] (AV.st [(W.netA false false (W.doneN (W.toN (W.netA false false n)) (2 : Int) (((a : Nat) : Int), ((b : Nat) : Int)))), (AV.st [(AV.i (0 : Int)), (AV.i (0 : Int)), (AV.i (0 : Int))]), (AV.i (W.doneE (W.toN (W.netA false false n)) (2 : Int) (((a : Nat) : Int), ((b : Nat) : Int))))]) [] ∧
  (Fun W.C W.P 21 [(W.netA false false n), (AV.i (3 : Int)), (AV.arr 2 1 (layParts (fun (x : Nat) => (AV.i (0 : Int))) [(0, (AV.i ((b : Nat) : Int))), (1, (AV.i ((a : Nat) : Int)))]))] [] (AV.st [(W.netA false false (W.doneN (W.toN (W.netA false false n)) (3 : Int) (((b : Nat) : Int), ((a : Nat) : Int)))), (AV.st [(AV.i (0 : Int)), (AV.i (0 : Int)), (AV.i (0 : Int))]), (AV.i (W.doneE (W.toN (W.netA false false n)) (3 : Int) (((b : Nat) : Int), ((a : Nat) : Int))))]) [] ∧
  (((W.ShK) ∧ ((W.ShK) ∧ (((true = true) ∧ (true = true)) ∧ True))) ∧
  (((W.ShK) ∧ ((W.ShK) ∧ (((true = true) ∧ (true = true)) ∧ True))) ∧
  (∃ (S2 : St), Ent W.C 289 [] K (St.mk [(5, (AV.sb true)), (6, (AV.ptr 6 [])), (7, (AV.i ((a : Nat) : Int))), (8, (AV.i ((b : Nat) : Int))), (9, (AV.ptr 9 [])), (10, (AV.ptr 10 [])), (34, (AV.v (Value.bool false)))] [(6, (Blk.c (W.netA false false n))), (9, (Blk.c (AV.st [(W.netA false false (W.doneN (W.toN (W.netA false false n)) (2 : Int) (((a : Nat) : Int), ((b : Nat) : Int)))), (AV.st [(AV.i (0 : Int)), (AV.i (0 : Int)), (AV.i (0 : Int))]), (AV.i (W.doneE (W.toN (W.netA false false n)) (2 : Int) (((a : Nat) : Int), ((b : Nat) : Int))))]))), (10, (Blk.c (AV.st [(W.netA false false (W.doneN (W.toN (W.netA false false n)) (3 : Int) (((b : Nat) : Int), ((a : Nat) : Int)))), (AV.st [(AV.i (0 : Int)), (AV.i (0 : Int)), (AV.i (0 : Int))]), (AV.i (W.doneE (W.toN (W.netA false false n)) (3 : Int) (((b : Nat) : Int), ((a : Nat) : Int))))])))] [10, 9, 6]) S2 ∧ Holds W.C W.P 289 [] K Φ (cutAt W.C w_nlc b_nlc [1, 1, 1, 1, 1, 0, 0] S2 (after W.C w_nlc b_nlc [1, 1, 1, 1, 1, 0, 0] [] lf))))))))) := by kernel_rfl
theorem nlc_C6 (n : Net) (a b : Nat) (s h : TK) (K : Nat) (Φ : Ex → St → Prop) :
  (Holds C P 289 [] K Φ (cutAt C w_nlc b_nlc [1, 1, 1, 1, 1, 0, 0] (S_lc6 n a b s h) (after C w_nlc b_nlc [1, 1, 1, 1, 1, 0, 0] [] lf))) =
  ((((Prod.snd (Prod.snd s)) != (0 : Int)) = true →
 (Φ Ex.ret (St.mk [(4, (AV.v (Value.bool false))), (5, (AV.sb true)), (6, (AV.ptr 6 [])), (7, (AV.i ((a : Nat) : Int))), (8, (AV.i ((b : Nat) : Int))), (9, (AV.ptr 9 [])), (10, (AV.ptr 10 [])), (119, (AV.v (Value.bool true)))] [(6, (Blk.c (W.netA false false n))), (9, (Blk.c (AV.st [(W.netA false false (Prod.fst s)), (W.pkA (Prod.fst (Prod.snd s))), (AV.i (Prod.snd (Prod.snd s)))]))), (10, (Blk.c (AV.st [(W.netA false false (Prod.fst h)), (W.pkA (Prod.fst (Prod.snd h))), (AV.i (Prod.snd (Prod.snd h)))])))] [6, 9, 10]))) ∧
 (((Prod.snd (Prod.snd s)) != (0 : Int)) = false →
 ((((Prod.snd (Prod.snd h)) != (0 : Int)) = true →
  (Φ Ex.ret (St.mk [(4, (AV.v (Value.bool false))), (5, (AV.sb true)), (6, (AV.ptr 6 [])), (7, (AV.i ((a : Nat) : Int))), (8, (AV.i ((b : Nat) : Int))), (9, (AV.ptr 9 [])), (10, (AV.ptr 10 [])), (119, (AV.v (Value.bool true)))] [(6, (Blk.c (W.netA false false n))), (9, (Blk.c (AV.st [(W.netA false false (Prod.fst s)), (W.pkA (Prod.fst (Prod.snd s))), (AV.i (Prod.snd (Prod.snd s)))]))), (10, (Blk.c (AV.st [(W.netA false false (Prod.fst h)), (W.pkA (Prod.fst (Prod.snd h))), (AV.i (Prod.snd (Prod.snd h)))])))] [6, 9, 10]))) ∧
  (((Prod.snd (Prod.snd h)) != (0 : Int)) = false →
  (Fun W.C W.P 27 [(W.netA false false (Prod.fst s))] [] (AV.sb (W.vB (W.toN (W.netA false false (Prod.fst s))))) [] ∧
   (True ∧
   (((! (W.vB (W.toN (W.netA false false (Prod.fst s))))) = true →
   (Φ Ex.ret (St.mk [(4, (AV.v (Value.bool false))), (5, (AV.sb true)), (6, (AV.ptr 6 [])), (7, (AV.i ((a : Nat) : Int))), (8, (AV.i ((b : Nat) : Int))), (9, (AV.ptr 9 [])), (10, (AV.ptr 10 [])), (119, (AV.v (Value.bool true)))] [(6, (Blk.c (W.netA false false n))), (9, (Blk.c (AV.st [(W.netA false false (Prod.fst s)), (W.pkA (Prod.fst (Prod.snd s))), (AV.i (Prod.snd (Prod.snd s)))]))), (10, (Blk.c (AV.st [(W.netA false false (Prod.fst h)), (W.pkA (Prod.fst (Prod.snd h))), (AV.i (Prod.snd (Prod.snd h)))])))] [6, 9, 10]))) ∧
   ((! (W.vB (W.toN (W.netA false false (Prod.fst s))))) = false →
   (Fun W.C W.P 27 [(W.netA false false (Prod.fst h))] [] (AV.sb (W.vB (W.toN (W.netA false false (Prod.fst h))))) [] ∧
    (True ∧
    (((! (W.vB (W.toN (W.netA false false (Prod.fst h))))) = true →
    (Φ Ex.ret (St.mk [(4, (AV.v (Value.bool false))), (5, (AV.sb true)), (6, (AV.ptr 6 [])), (7, (AV.i ((a : Nat) : Int))), (8, (AV.i ((b : Nat) : Int))), (9, (AV.ptr 9 [])), (10, (AV.ptr 10 [])), (119, (AV.v (Value.bool true)))] [(6, (Blk.c (W.netA false false n))), (9, (Blk.c (AV.st [(W.netA false false (Prod.fst s)), (W.pkA (Prod.fst (Prod.snd s))), (AV.i (Prod.snd (Prod.snd s)))]))), (10, (Blk.c (AV.st [(W.netA false false (Prod.fst h)), (W.pkA (Prod.fst (Prod.snd h))), (AV.i (Prod.snd (Prod.snd h)))])))] [6, 9, 10]))) ∧
    ((! (W.vB (W.toN (W.netA false false (Prod.fst h))))) = false →
    (Fun W.C W.P 19 [(W.netA false false (Prod.fst s)), (AV.i ((a : Nat) : Int)), (AV.i ((b : Nat) : Int))] [] (AV.sb (W.reachN (W.toN (W.netA false false (Prod.fst s))) ((a : Nat) : Int) ((b : Nat) : Int))) [] ∧
     (True ∧
     (((W.reachN (W.toN (W.netA false false (Prod.fst s))) ((a : Nat) : Int) ((b : Nat) : Int)) = true →
     (Φ Ex.ret (St.mk [(4, (AV.v (Value.bool false))), (5, (AV.sb true)), (6, (AV.ptr 6 [])), (7, (AV.i ((a : Nat) : Int))), (8, (AV.i ((b : Nat) : Int))), (9, (AV.ptr 9 [])), (10, (AV.ptr 10 [])), (119, (AV.v (Value.bool true)))] [(6, (Blk.c (W.netA false false n))), (9, (Blk.c (AV.st [(W.netA false false (Prod.fst s)), (W.pkA (Prod.fst (Prod.snd s))), (AV.i (Prod.snd (Prod.snd s)))]))), (10, (Blk.c (AV.st [(W.netA false false (Prod.fst h)), (W.pkA (Prod.fst (Prod.snd h))), (AV.i (Prod.snd (Prod.snd h)))])))] [6, 9, 10]))) ∧
     ((W.reachN (W.toN (W.netA false false (Prod.fst s))) ((a : Nat) : Int) ((b : Nat) : Int)) = false →
     (Fun W.C W.P 19 [(W.netA false false (Prod.fst s)), (AV.i ((b : Nat) : Int)), (AV.i ((a : Nat) : Int))] [] (AV.sb (W.reachN (W.toN (W.netA false false (Prod.fst s))) ((b : Nat) : Int) ((a : Nat) : Int))) [] ∧
      (True ∧
      (((W.reachN (W.toN (W.netA false false (Prod.fst s))) ((b : Nat) : Int) ((a : Nat) : Int)) = true →
      (Φ Ex.ret (St.mk [(4, (AV.v (Value.bool false))), (5, (AV.sb true)), (6, (AV.ptr 6 [])), (7, (AV.i ((a : Nat) : Int))), (8, (AV.i ((b : Nat) : Int))), (9, (AV.ptr 9 [])), (10, (AV.ptr 10 [])), (119, (AV.v (Value.bool true)))] [(6, (Blk.c (W.netA false false n))), (9, (Blk.c (AV.st [(W.netA false false (Prod.fst s)), (W.pkA (Prod.fst (Prod.snd s))), (AV.i (Prod.snd (Prod.snd s)))]))), (10, (Blk.c (AV.st [(W.netA false false (Prod.fst h)), (W.pkA (Prod.fst (Prod.snd h))), (AV.i (Prod.snd (Prod.snd h)))])))] [6, 9, 10]))) ∧
      ((W.reachN (W.toN (W.netA false false (Prod.fst s))) ((b : Nat) : Int) ((a : Nat) : Int)) = false →
      (Fun W.C W.P 19 [(W.netA false false (Prod.fst h)), (AV.i ((a : Nat) : Int)), (AV.i ((b : Nat) : Int))] [] (AV.sb (W.reachN (W.toN (W.netA false false (Prod.fst h))) ((a : Nat) : Int) ((b : Nat) : Int))) [] ∧
       (True ∧
       (((! (W.reachN (W.toN (W.netA false false (Prod.fst h))) ((a : Nat) : Int) ((b : Nat) : Int))) = true →
       (Φ Ex.ret (St.mk [(4, (AV.v (Value.bool false))), (5, (AV.sb true)), (6, (AV.ptr 6 [])), (7, (AV.i ((a : Nat) : Int))), (8, (AV.i ((b : Nat) : Int))), (9, (AV.ptr 9 [])), (10, (AV.ptr 10 [])), (119, (AV.v (Value.bool true)))] [(6, (Blk.c (W.netA false false n))), (9, (Blk.c (AV.st [(W.netA false false (Prod.fst s)), (W.pkA (Prod.fst (Prod.snd s))), (AV.i (Prod.snd (Prod.snd s)))]))), (10, (Blk.c (AV.st [(W.netA false false (Prod.fst h)), (W.pkA (Prod.fst (Prod.snd h))), (AV.i (Prod.snd (Prod.snd h)))])))] [6, 9, 10]))) ∧
       ((! (W.reachN (W.toN (W.netA false false (Prod.fst h))) ((a : Nat) : Int) ((b : Nat) : Int))) = false →
       (Fun W.C W.P 19 [(W.netA false false (Prod.fst h)), (AV.i ((b : Nat) : Int)), (AV.i ((a : Nat) : Int))] [] (AV.sb (W.reachN (W.toN (W.netA false false (Prod.fst h))) ((b : Nat) : Int) ((a : Nat) : Int))) [] ∧
        (True ∧
        (((! (W.reachN (W.toN (W.netA false false (Prod.fst h))) ((b : Nat) : Int) ((a : Nat) : Int))) = true →
        (Φ Ex.ret (St.mk [(4, (AV.v (Value.bool false))), (5, (AV.sb true)), (6, (AV.ptr 6 [])), (7, (AV.i ((a : Nat) : Int))), (8, (AV.i ((b : Nat) : Int))), (9, (AV.ptr 9 [])), (10, (AV.ptr 10 [])), (119, (AV.v (Value.bool true)))] [(6, (Blk.c (W.netA false false n))), (9, (Blk.c (AV.st [(W.netA false false (Prod.fst s)), (W.pkA (Prod.fst (Prod.snd s))), (AV.i (Prod.snd (Prod.snd s)))]))), (10, (Blk.c (AV.st [(W.netA false false (Prod.fst h)), (W.pkA (Prod.fst (Prod.snd h))), (AV.i (Prod.snd (Prod.snd h)))])))] [6, 9, 10]))) ∧
        ((! (W.reachN (W.toN (W.netA false false (Prod.fst h))) ((b : Nat) : Int) ((a : Nat) : Int))) = false →
        (LoopOK W.C W.P 289 [] K (bodyAt b_nlc [1, 1, 1, 1, 1, 1, 0, 1, 0]) (St.mk [(5, (AV.sb true)), (6, (AV.ptr 6 [])), (7, (AV.i ((a : Nat) : Int))), (8, (AV.i ((b : Nat) : Int))), (9, (AV.ptr 9 [])), (10, (AV.ptr 10 [])), (11, (AV.i (0 : Int))), (119, (AV.v (Value.bool false)))] [(6, (Blk.c (W.netA false false n))), (9, (Blk.c (AV.st [(W.netA false false (Prod.fst s)), (W.pkA (Prod.fst (Prod.snd s))), (AV.i (Prod.snd (Prod.snd s)))]))), (10, (Blk.c (AV.st [(W.netA false false (Prod.fst h)), (W.pkA (Prod.fst (Prod.snd h))), (AV.i (Prod.snd (Prod.snd h)))])))] [6, 9, 10]) (fun (e : Ex) (S' : St) => Holds W.C W.P 289 [] K Φ (after W.C w_nlc b_nlc [1, 1, 1, 1, 1, 1, 0, 1, 0] [] lf e S'))))))))))))))))))))))))))))))) := by kernel_rfl
noncomputable abbrev bd_nlc_0 : Code := bodyAt (b_nlc) [1, 1, 1, 1, 1, 1, 0, 1, 0]
theorem ok_nlc_0 : codeOK bd_nlc_0 = true := by kernel_rfl
noncomputable abbrev rest_nlc_0 (K : Nat) (Φ : Ex → St → Prop) : Ex → St → Prop := fun e S' => Holds C P 289 [] K Φ (after C w_nlc (b_nlc) [1, 1, 1, 1, 1, 1, 0, 1, 0] [] lf e S')
theorem nlc_L0 (n : Net) (a b : Nat) (s h : TK) (i : Nat) (K : Nat) (Φ : Ex → St → Prop) :
  (Holds C P 289 [] K (RoundQ C 289 [] K (I_lc0 n a b s h) (fun i => i ≤ n.fly.length) (fun i => n.fly.length - i) ((fun i => n.fly.length - i) (i)) (rest_nlc_0 K Φ)) (vc C w_nlc bd_nlc_0 [] ((I_lc0 n a b s h) (i)) lf)) =
  (((decide (((i : Nat) : Int) < (((List.length (W.Net.fly n)) : Nat) : Int))) = true →
 ((((0 : Int) ≤ ((i : Nat) : Int)) ∧ (((i : Nat) : Int) < (((List.length (W.Net.fly n)) : Nat) : Int))) ∧
  ((W.ShK) ∧
  ((((Prod.fst (Prod.snd (W.kAt (W.Net.fly n) i))) == ((a : Nat) : Int)) = true →
  ((((Prod.snd (Prod.snd (W.kAt (W.Net.fly n) i))) == ((b : Nat) : Int)) = true →
   (∃ (S2 : St), Ent W.C 289 [] K (St.mk [(5, (AV.sb true)), (6, (AV.ptr 6 [])), (7, (AV.i ((a : Nat) : Int))), (8, (AV.i ((b : Nat) : Int))), (9, (AV.ptr 9 [])), (10, (AV.ptr 10 [])), (11, (AV.i ((i : Nat) : Int))), (12, (AV.ptr 12 [])), (13, (AV.v (Value.bool true))), (124, (AV.v (Value.bool true)))] [(6, (Blk.c (W.netA false false n))), (9, (Blk.c (AV.st [(W.netA false false (Prod.fst s)), (W.pkA (Prod.fst (Prod.snd s))), (AV.i (Prod.snd (Prod.snd s)))]))), (10, (Blk.c (AV.st [(W.netA false false (Prod.fst h)), (W.pkA (Prod.fst (Prod.snd h))), (AV.i (Prod.snd (Prod.snd h)))]))), (12, (Blk.c (W.pkA (W.kAt (W.Net.fly n) i))))] [12, 6, 9, 10]) S2 ∧ Holds W.C W.P 289 [] K (RoundQ C 289 [] K (I_lc0 n a b s h) (fun i => i ≤ n.fly.length) (fun i => n.fly.length - i) ((fun i => n.fly.length - i) (i)) (rest_nlc_0 K Φ)) (cutAt W.C w_nlc bd_nlc_0 [1, 0, 0, 1, 1, 0] S2 (after W.C w_nlc bd_nlc_0 [1, 0, 0, 1, 1, 0] [] lf)))) ∧
   (((Prod.snd (Prod.snd (W.kAt (W.Net.fly n) i))) == ((b : Nat) : Int)) = false →
   ((((Prod.fst (Prod.snd (W.kAt (W.Net.fly n) i))) == ((b : Nat) : Int)) = true →
    (∃ (S2 : St), Ent W.C 289 [] K (St.mk [(5, (AV.sb true)), (6, (AV.ptr 6 [])), (7, (AV.i ((a : Nat) : Int))), (8, (AV.i ((b : Nat) : Int))), (9, (AV.ptr 9 [])), (10, (AV.ptr 10 [])), (11, (AV.i ((i : Nat) : Int))), (12, (AV.ptr 12 [])), (13, (AV.sb ((Prod.snd (Prod.snd (W.kAt (W.Net.fly n) i))) == ((a : Nat) : Int)))), (124, (AV.v (Value.bool true)))] [(6, (Blk.c (W.netA false false n))), (9, (Blk.c (AV.st [(W.netA false false (Prod.fst s)), (W.pkA (Prod.fst (Prod.snd s))), (AV.i (Prod.snd (Prod.snd s)))]))), (10, (Blk.c (AV.st [(W.netA false false (Prod.fst h)), (W.pkA (Prod.fst (Prod.snd h))), (AV.i (Prod.snd (Prod.snd h)))]))), (12, (Blk.c (W.pkA (W.kAt (W.Net.fly n) i))))] [12, 6, 9, 10]) S2 ∧ Holds W.C W.P 289 [] K (RoundQ C 289 [] K (I_lc0 n a b s h) (fun i => i ≤ n.fly.length) (fun i => n.fly.length - i) ((fun i => n.fly.length - i) (i)) (rest_nlc_0 K Φ)) (cutAt W.C w_nlc bd_nlc_0 [1, 0, 0, 1, 1, 0] S2 (after W.C w_nlc bd_nlc_0 [1, 0, 0, 1, 1, 0] [] lf)))) ∧
    (((Prod.fst (Prod.snd (W.kAt (W.Net.fly n) i))) == ((b : Nat) : Int)) = false →
    (∃ (S2 : St), Ent W.C 289 [] K (St.mk [(5, (AV.sb true)), (6, (AV.ptr 6 [])), (7, (AV.i ((a : Nat) : Int))), (8, (AV.i ((b : Nat) : Int))), (9, (AV.ptr 9 [])), (10, (AV.ptr 10 [])), (11, (AV.i ((i : Nat) : Int))), (12, (AV.ptr 12 [])), (13, (AV.v (Value.bool false))), (124, (AV.v (Value.bool true)))] [(6, (Blk.c (W.netA false false n))), (9, (Blk.c (AV.st [(W.netA false false (Prod.fst s)), (W.pkA (Prod.fst (Prod.snd s))), (AV.i (Prod.snd (Prod.snd s)))]))), (10, (Blk.c (AV.st [(W.netA false false (Prod.fst h)), (W.pkA (Prod.fst (Prod.snd h))), (AV.i (Prod.snd (Prod.snd h)))]))), (12, (Blk.c (W.pkA (W.kAt (W.Net.fly n) i))))] [12, 6, 9, 10]) S2 ∧ Holds W.C W.P 289 [] K (RoundQ C 289 [] K (I_lc0 n a b s h) (fun i => i ≤ n.fly.length) (fun i => n.fly.length - i) ((fun i => n.fly.length - i) (i)) (rest_nlc_0 K Φ)) (cutAt W.C w_nlc bd_nlc_0 [1, 0, 0, 1, 1, 0] S2 (after W.C w_nlc bd_nlc_0 [1, 0, 0, 1, 1, 0] [] lf)))))))) ∧
  (((Prod.fst (Prod.snd (W.kAt (W.Net.fly n) i))) == ((a : Nat) : Int)) = false →
  ((((Prod.fst (Prod.snd (W.kAt (W.Net.fly n) i))) == ((b : Nat) : Int)) = true →
   (∃ (S2 : St), Ent W.C 289 [] K (St.mk [(5, (AV.sb true)), (6, (AV.ptr 6 [])), (7, (AV.i ((a : Nat) : Int))), (8, (AV.i ((b : Nat) : Int))), (9, (AV.ptr 9 [])), (10, (AV.ptr 10 [])), (11, (AV.i ((i : Nat) : Int))), (12, (AV.ptr 12 [])), (13, (AV.sb ((Prod.snd (Prod.snd (W.kAt (W.Net.fly n) i))) == ((a : Nat) : Int)))), (124, (AV.v (Value.bool true)))] [(6, (Blk.c (W.netA false false n))), (9, (Blk.c (AV.st [(W.netA false false (Prod.fst s)), (W.pkA (Prod.fst (Prod.snd s))), (AV.i (Prod.snd (Prod.snd s)))]))), (10, (Blk.c (AV.st [(W.netA false false (Prod.fst h)), (W.pkA (Prod.fst (Prod.snd h))), (AV.i (Prod.snd (Prod.snd h)))]))), (12, (Blk.c (W.pkA (W.kAt (W.Net.fly n) i))))] [12, 6, 9, 10]) S2 ∧ Holds W.C W.P 289 [] K (RoundQ C 289 [] K (I_lc0 n a b s h) (fun i => i ≤ n.fly.length) (fun i => n.fly.length - i) ((fun i => n.fly.length - i) (i)) (rest_nlc_0 K Φ)) (cutAt W.C w_nlc bd_nlc_0 [1, 0, 0, 1, 1, 0] S2 (after W.C w_nlc bd_nlc_0 [1, 0, 0, 1, 1, 0] [] lf)))) ∧
   (((Prod.fst (Prod.snd (W.kAt (W.Net.fly n) i))) == ((b : Nat) : Int)) = false →
   (∃ (S2 : St), Ent W.C 289 [] K (St.mk [(5, (AV.sb true)), (6, (AV.ptr 6 [])), (7, (AV.i ((a : Nat) : Int))), (8, (AV.i ((b : Nat) : Int))), (9, (AV.ptr 9 [])), (10, (AV.ptr 10 [])), (11, (AV.i ((i : Nat) : Int))), (12, (AV.ptr 12 [])), (13, (AV.v (Value.bool false))), (124, (AV.v (Value.bool true)))] [(6, (Blk.c (W.netA false false n))), (9, (Blk.c (AV.st [(W.netA false false (Prod.fst s)), (W.pkA (Prod.fst (Prod.snd s))), (AV.i (Prod.snd (Prod.snd s)))]))), (10, (Blk.c (AV.st [(W.netA false false (Prod.fst h)), (W.pkA (Prod.fst (Prod.snd h))), (AV.i (Prod.snd (Prod.snd h)))]))), (12, (Blk.c (W.pkA (W.kAt (W.Net.fly n) i))))] [12, 6, 9, 10]) S2 ∧ Holds W.C W.P 289 [] K (RoundQ C 289 [] K (I_lc0 n a b s h) (fun i => i ≤ n.fly.length) (fun i => n.fly.length - i) ((fun i => n.fly.length - i) (i)) (rest_nlc_0 K Φ)) (cutAt W.C w_nlc bd_nlc_0 [1, 0, 0, 1, 1, 0] S2 (after W.C w_nlc bd_nlc_0 [1, 0, 0, 1, 1, 0] [] lf)))))))))) ∧
 ((decide (((i : Nat) : Int) < (((List.length (W.Net.fly n)) : Nat) : Int))) = false →
 (LoopOK W.C W.P 289 [] K (bodyAt b_nlc [1, 1, 1, 1, 1, 1, 1, 0, 1, 0]) (St.mk [(5, (AV.sb true)), (6, (AV.ptr 6 [])), (7, (AV.i ((a : Nat) : Int))), (8, (AV.i ((b : Nat) : Int))), (9, (AV.ptr 9 [])), (10, (AV.ptr 10 [])), (11, (AV.i ((i : Nat) : Int))), (17, (AV.i (0 : Int))), (124, (AV.v (Value.bool false)))] [(6, (Blk.c (W.netA false false n))), (9, (Blk.c (AV.st [(W.netA false false (Prod.fst s)), (W.pkA (Prod.fst (Prod.snd s))), (AV.i (Prod.snd (Prod.snd s)))]))), (10, (Blk.c (AV.st [(W.netA false false (Prod.fst h)), (W.pkA (Prod.fst (Prod.snd h))), (AV.i (Prod.snd (Prod.snd h)))])))] [6, 9, 10]) (fun (e : Ex) (S' : St) => Holds W.C W.P 289 [] K Φ (after W.C w_nlc b_nlc [1, 1, 1, 1, 1, 1, 1, 0, 1, 0] [] lf e S'))))) := by kernel_rfl
theorem nlc_C13 (n : Net) (a b : Nat) (s h : TK) (i : Nat) (p : Pk) (bw : Bool) (K : Nat) (Φ : Ex → St → Prop) :
  (Holds C P 289 [] K Φ (cutAt C w_nlc bd_nlc_0 [1, 0, 0, 1, 1, 0] (S_lc13 n a b s h i p bw) (after C w_nlc bd_nlc_0 [1, 0, 0, 1, 1, 0] [] lf))) =
  (Fun W.C W.P 17 [(W.netA false false (Prod.fst s)), (AV.i (Prod.fst p))] [] (AV.st [(W.netA false false (W.takeN (W.toN (W.netA false false (Prod.fst s))) (Prod.fst p))), (W.pkA (W.takeP (W.toN (W.netA false false (Prod.fst s))) (Prod.fst p))), (AV.i (W.takeE (W.toN (W.netA false false (Prod.fst s))) (Prod.fst p)))]) [] ∧
 (Fun W.C W.P 17 [(W.netA false false (Prod.fst h)), (AV.i (Prod.fst p))] [] (AV.st [(W.netA false false (W.takeN (W.toN (W.netA false false (Prod.fst h))) (Prod.fst p))), (W.pkA (W.takeP (W.toN (W.netA false false (Prod.fst h))) (Prod.fst p))), (AV.i (W.takeE (W.toN (W.netA false false (Prod.fst h))) (Prod.fst p)))]) [] ∧
 (Fun W.C W.P 17 [(W.netA false false n), (AV.i (Prod.fst p))] [] (AV.st [(W.netA false false (W.takeN (W.toN (W.netA false false n)) (Prod.fst p))), (W.pkA (W.takeP (W.toN (W.netA false false n)) (Prod.fst p))), (AV.i (W.takeE (W.toN (W.netA false false n)) (Prod.fst p)))]) [] ∧
 (((W.ShK) ∧ ((W.ShK) ∧ (((true = true) ∧ (true = true)) ∧ True))) ∧
 (((W.ShK) ∧ ((W.ShK) ∧ (((true = true) ∧ (true = true)) ∧ True))) ∧
 (((W.ShK) ∧ ((W.ShK) ∧ (((true = true) ∧ (true = true)) ∧ True))) ∧
 (∃ (S2 : St), Ent W.C 289 [] K (St.mk [(5, (AV.sb true)), (6, (AV.ptr 6 [])), (7, (AV.i ((a : Nat) : Int))), (8, (AV.i ((b : Nat) : Int))), (9, (AV.ptr 9 [])), (10, (AV.ptr 10 [])), (11, (AV.i ((i : Nat) : Int))), (12, (AV.ptr 12 [])), (13, (AV.sb bw)), (14, (AV.ptr 14 [])), (15, (AV.ptr 15 [])), (16, (AV.ptr 16 []))] [(6, (Blk.c (W.netA false false n))), (9, (Blk.c (AV.st [(W.netA false false (Prod.fst s)), (W.pkA (Prod.fst (Prod.snd s))), (AV.i (Prod.snd (Prod.snd s)))]))), (10, (Blk.c (AV.st [(W.netA false false (Prod.fst h)), (W.pkA (Prod.fst (Prod.snd h))), (AV.i (Prod.snd (Prod.snd h)))]))), (12, (Blk.c (W.pkA p))), (14, (Blk.c (AV.st [(W.netA false false (W.takeN (W.toN (W.netA false false (Prod.fst s))) (Prod.fst p))), (W.pkA (W.takeP (W.toN (W.netA false false (Prod.fst s))) (Prod.fst p))), (AV.i (W.takeE (W.toN (W.netA false false (Prod.fst s))) (Prod.fst p)))]))), (15, (Blk.c (AV.st [(W.netA false false (W.takeN (W.toN (W.netA false false (Prod.fst h))) (Prod.fst p))), (W.pkA (W.takeP (W.toN (W.netA false false (Prod.fst h))) (Prod.fst p))), (AV.i (W.takeE (W.toN (W.netA false false (Prod.fst h))) (Prod.fst p)))]))), (16, (Blk.c (AV.st [(W.netA false false (W.takeN (W.toN (W.netA false false n)) (Prod.fst p))), (W.pkA (W.takeP (W.toN (W.netA false false n)) (Prod.fst p))), (AV.i (W.takeE (W.toN (W.netA false false n)) (Prod.fst p)))])))] [16, 15, 14, 6, 9, 10, 12]) S2 ∧ Holds W.C W.P 289 [] K Φ (cutAt W.C w_nlc bd_nlc_0 [1, 0, 0, 1, 1, 1, 0] S2 (after W.C w_nlc bd_nlc_0 [1, 0, 0, 1, 1, 1, 0] [] lf))))))))) := by kernel_rfl
theorem nlc_C14 (n : Net) (a b : Nat) (s h : TK) (i : Nat) (p : Pk) (bw : Bool) (x y z : TK) (K : Nat) (Φ : Ex → St → Prop) :
  (Holds C P 289 [] K Φ (cutAt C w_nlc bd_nlc_0 [1, 0, 0, 1, 1, 1, 0] (S_lc14 n a b s h i p bw x y z) (after C w_nlc bd_nlc_0 [1, 0, 0, 1, 1, 1, 0] [] lf))) =
  ((bw = true →
 ((((Prod.snd (Prod.snd x)) != (320 : Int)) = true →
  (Φ Ex.ret (St.mk [(4, (AV.v (Value.bool false))), (5, (AV.sb true)), (6, (AV.ptr 6 [])), (7, (AV.i ((a : Nat) : Int))), (8, (AV.i ((b : Nat) : Int))), (9, (AV.ptr 9 [])), (10, (AV.ptr 10 [])), (11, (AV.i ((i : Nat) : Int))), (12, (AV.ptr 12 [])), (13, (AV.sb bw)), (14, (AV.ptr 14 [])), (15, (AV.ptr 15 [])), (16, (AV.ptr 16 [])), (210, (AV.v (Value.bool true)))] [(6, (Blk.c (W.netA false false n))), (9, (Blk.c (AV.st [(W.netA false false (Prod.fst s)), (W.pkA (Prod.fst (Prod.snd s))), (AV.i (Prod.snd (Prod.snd s)))]))), (10, (Blk.c (AV.st [(W.netA false false (Prod.fst h)), (W.pkA (Prod.fst (Prod.snd h))), (AV.i (Prod.snd (Prod.snd h)))]))), (12, (Blk.c (W.pkA p))), (14, (Blk.c (AV.st [(W.netA false false (Prod.fst x)), (W.pkA (Prod.fst (Prod.snd x))), (AV.i (Prod.snd (Prod.snd x)))]))), (15, (Blk.c (AV.st [(W.netA false false (Prod.fst y)), (W.pkA (Prod.fst (Prod.snd y))), (AV.i (Prod.snd (Prod.snd y)))]))), (16, (Blk.c (AV.st [(W.netA false false (Prod.fst z)), (W.pkA (Prod.fst (Prod.snd z))), (AV.i (Prod.snd (Prod.snd z)))])))] [6, 9, 10, 12, 14, 15, 16]))) ∧
  (((Prod.snd (Prod.snd x)) != (320 : Int)) = false →
  (Fun W.C W.P 15 [(W.netA false false (Prod.fst x)), (W.netA false false (Prod.fst s))] [] (AV.sb (W.sameB (W.toN (W.netA false false (Prod.fst x))) (W.toN (W.netA false false (Prod.fst s))))) [] ∧
   (True ∧
   (((! (W.sameB (W.toN (W.netA false false (Prod.fst x))) (W.toN (W.netA false false (Prod.fst s))))) = true →
   (Φ Ex.ret (St.mk [(4, (AV.v (Value.bool false))), (5, (AV.sb true)), (6, (AV.ptr 6 [])), (7, (AV.i ((a : Nat) : Int))), (8, (AV.i ((b : Nat) : Int))), (9, (AV.ptr 9 [])), (10, (AV.ptr 10 [])), (11, (AV.i ((i : Nat) : Int))), (12, (AV.ptr 12 [])), (13, (AV.sb bw)), (14, (AV.ptr 14 [])), (15, (AV.ptr 15 [])), (16, (AV.ptr 16 [])), (210, (AV.v (Value.bool true)))] [(6, (Blk.c (W.netA false false n))), (9, (Blk.c (AV.st [(W.netA false false (Prod.fst s)), (W.pkA (Prod.fst (Prod.snd s))), (AV.i (Prod.snd (Prod.snd s)))]))), (10, (Blk.c (AV.st [(W.netA false false (Prod.fst h)), (W.pkA (Prod.fst (Prod.snd h))), (AV.i (Prod.snd (Prod.snd h)))]))), (12, (Blk.c (W.pkA p))), (14, (Blk.c (AV.st [(W.netA false false (Prod.fst x)), (W.pkA (Prod.fst (Prod.snd x))), (AV.i (Prod.snd (Prod.snd x)))]))), (15, (Blk.c (AV.st [(W.netA false false (Prod.fst y)), (W.pkA (Prod.fst (Prod.snd y))), (AV.i (Prod.snd (Prod.snd y)))]))), (16, (Blk.c (AV.st [(W.netA false false (Prod.fst z)), (W.pkA (Prod.fst (Prod.snd z))), (AV.i (Prod.snd (Prod.snd z)))])))] [6, 9, 10, 12, 14, 15, 16]))) ∧
   ((! (W.sameB (W.toN (W.netA false false (Prod.fst x))) (W.toN (W.netA false false (Prod.fst s))))) = false →
   ((((Prod.snd (Prod.snd y)) != (0 : Int)) = true →
    (Φ Ex.ret (St.mk [(4, (AV.v (Value.bool false))), (5, (AV.sb true)), (6, (AV.ptr 6 [])), (7, (AV.i ((a : Nat) : Int))), (8, (AV.i ((b : Nat) : Int))), (9, (AV.ptr 9 [])), (10, (AV.ptr 10 [])), (11, (AV.i ((i : Nat) : Int))), (12, (AV.ptr 12 [])), (13, (AV.sb bw)), (14, (AV.ptr 14 [])), (15, (AV.ptr 15 [])), (16, (AV.ptr 16 [])), (210, (AV.v (Value.bool true)))] [(6, (Blk.c (W.netA false false n))), (9, (Blk.c (AV.st [(W.netA false false (Prod.fst s)), (W.pkA (Prod.fst (Prod.snd s))), (AV.i (Prod.snd (Prod.snd s)))]))), (10, (Blk.c (AV.st [(W.netA false false (Prod.fst h)), (W.pkA (Prod.fst (Prod.snd h))), (AV.i (Prod.snd (Prod.snd h)))]))), (12, (Blk.c (W.pkA p))), (14, (Blk.c (AV.st [(W.netA false false (Prod.fst x)), (W.pkA (Prod.fst (Prod.snd x))), (AV.i (Prod.snd (Prod.snd x)))]))), (15, (Blk.c (AV.st [(W.netA false false (Prod.fst y)), (W.pkA (Prod.fst (Prod.snd y))), (AV.i (Prod.snd (Prod.snd y)))]))), (16, (Blk.c (AV.st [(W.netA false false (Prod.fst z)), (W.pkA (Prod.fst (Prod.snd z))), (AV.i (Prod.snd (Prod.snd z)))])))] [6, 9, 10, 12, 14, 15, 16]))) ∧
    (((Prod.snd (Prod.snd y)) != (0 : Int)) = false →
    (((! (((Prod.fst (Prod.fst (Prod.snd y))) == (Prod.fst p)) && (((Prod.fst (Prod.snd (Prod.fst (Prod.snd y)))) == (Prod.fst (Prod.snd p))) && (((Prod.snd (Prod.snd (Prod.fst (Prod.snd y)))) == (Prod.snd (Prod.snd p))) && true)))) = true →
     (Φ Ex.ret (St.mk [(4, (AV.v (Value.bool false))), (5, (AV.sb true)), (6, (AV.ptr 6 [])), (7, (AV.i ((a : Nat) : Int))), (8, (AV.i ((b : Nat) : Int))), (9, (AV.ptr 9 [])), (10, (AV.ptr 10 [])), (11, (AV.i ((i : Nat) : Int))), (12, (AV.ptr 12 [])), (13, (AV.sb bw)), (14, (AV.ptr 14 [])), (15, (AV.ptr 15 [])), (16, (AV.ptr 16 [])), (210, (AV.v (Value.bool true)))] [(6, (Blk.c (W.netA false false n))), (9, (Blk.c (AV.st [(W.netA false false (Prod.fst s)), (W.pkA (Prod.fst (Prod.snd s))), (AV.i (Prod.snd (Prod.snd s)))]))), (10, (Blk.c (AV.st [(W.netA false false (Prod.fst h)), (W.pkA (Prod.fst (Prod.snd h))), (AV.i (Prod.snd (Prod.snd h)))]))), (12, (Blk.c (W.pkA p))), (14, (Blk.c (AV.st [(W.netA false false (Prod.fst x)), (W.pkA (Prod.fst (Prod.snd x))), (AV.i (Prod.snd (Prod.snd x)))]))), (15, (Blk.c (AV.st [(W.netA false false (Prod.fst y)), (W.pkA (Prod.fst (Prod.snd y))), (AV.i (Prod.snd (Prod.snd y)))]))), (16, (Blk.c (AV.st [(W.netA false false (Prod.fst z)), (W.pkA (Prod.fst (Prod.snd z))), (AV.i (Prod.snd (Prod.snd z)))])))] [6, 9, 10, 12, 14, 15, 16]))) ∧
     ((! (((Prod.fst (Prod.fst (Prod.snd y))) == (Prod.fst p)) && (((Prod.fst (Prod.snd (Prod.fst (Prod.snd y)))) == (Prod.fst (Prod.snd p))) && (((Prod.snd (Prod.snd (Prod.fst (Prod.snd y)))) == (Prod.snd (Prod.snd p))) && true)))) = false →
     (((!bw) = true →
      ((((Prod.snd (Prod.snd x)) != (Prod.snd (Prod.snd z))) = true →
       (Φ Ex.ret (St.mk [(4, (AV.v (Value.bool false))), (5, (AV.sb true)), (6, (AV.ptr 6 [])), (7, (AV.i ((a : Nat) : Int))), (8, (AV.i ((b : Nat) : Int))), (9, (AV.ptr 9 [])), (10, (AV.ptr 10 [])), (11, (AV.i ((i : Nat) : Int))), (12, (AV.ptr 12 [])), (13, (AV.sb bw)), (14, (AV.ptr 14 [])), (15, (AV.ptr 15 [])), (16, (AV.ptr 16 [])), (210, (AV.v (Value.bool true)))] [(6, (Blk.c (W.netA false false n))), (9, (Blk.c (AV.st [(W.netA false false (Prod.fst s)), (W.pkA (Prod.fst (Prod.snd s))), (AV.i (Prod.snd (Prod.snd s)))]))), (10, (Blk.c (AV.st [(W.netA false false (Prod.fst h)), (W.pkA (Prod.fst (Prod.snd h))), (AV.i (Prod.snd (Prod.snd h)))]))), (12, (Blk.c (W.pkA p))), (14, (Blk.c (AV.st [(W.netA false false (Prod.fst x)), (W.pkA (Prod.fst (Prod.snd x))), (AV.i (Prod.snd (Prod.snd x)))]))), (15, (Blk.c (AV.st [(W.netA false false (Prod.fst y)), (W.pkA (Prod.fst (Prod.snd y))), (AV.i (Prod.snd (Prod.snd y)))]))), (16, (Blk.c (AV.st [(W.netA false false (Prod.fst z)), (W.pkA (Prod.fst (Prod.snd z))), (AV.i (Prod.snd (Prod.snd z)))])))] [6, 9, 10, 12, 14, 15, 16]))) ∧
       (((Prod.snd (Prod.snd x)) != (Prod.snd (Prod.snd z))) = false →
       ((((Prod.snd (Prod.snd y)) != (Prod.snd (Prod.snd z))) = true →
        (Φ Ex.ret (St.mk [(4, (AV.v (Value.bool false))), (5, (AV.sb true)), (6, (AV.ptr 6 [])), (7, (AV.i ((a : Nat) : Int))), (8, (AV.i ((b : Nat) : Int))), (9, (AV.ptr 9 [])), (10, (AV.ptr 10 [])), (11, (AV.i ((i : Nat) : Int))), (12, (AV.ptr 12 [])), (13, (AV.sb bw)), (14, (AV.ptr 14 [])), (15, (AV.ptr 15 [])), (16, (AV.ptr 16 [])), (210, (AV.v (Value.bool true)))] [(6, (Blk.c (W.netA false false n))), (9, (Blk.c (AV.st [(W.netA false false (Prod.fst s)), (W.pkA (Prod.fst (Prod.snd s))), (AV.i (Prod.snd (Prod.snd s)))]))), (10, (Blk.c (AV.st [(W.netA false false (Prod.fst h)), (W.pkA (Prod.fst (Prod.snd h))), (AV.i (Prod.snd (Prod.snd h)))]))), (12, (Blk.c (W.pkA p))), (14, (Blk.c (AV.st [(W.netA false false (Prod.fst x)), (W.pkA (Prod.fst (Prod.snd x))), (AV.i (Prod.snd (Prod.snd x)))]))), (15, (Blk.c (AV.st [(W.netA false false (Prod.fst y)), (W.pkA (Prod.fst (Prod.snd y))), (AV.i (Prod.snd (Prod.snd y)))]))), (16, (Blk.c (AV.st [(W.netA false false (Prod.fst z)), (W.pkA (Prod.fst (Prod.snd z))), (AV.i (Prod.snd (Prod.snd z)))])))] [6, 9, 10, 12, 14, 15, 16]))) ∧
        (((Prod.snd (Prod.snd y)) != (Prod.snd (Prod.snd z))) = false →
        ((I64 (((i + 1) : Nat) : Int)) ∧
         (Φ Ex.normal (St.mk [(5, (AV.sb true)), (6, (AV.ptr 6 [])), (7, (AV.i ((a : Nat) : Int))), (8, (AV.i ((b : Nat) : Int))), (9, (AV.ptr 9 [])), (10, (AV.ptr 10 [])), (11, (AV.i (((i + 1) : Nat) : Int))), (12, (AV.ptr 12 [])), (13, (AV.sb bw)), (14, (AV.ptr 14 [])), (15, (AV.ptr 15 [])), (16, (AV.ptr 16 [])), (210, (AV.v (Value.bool false)))] [(6, (Blk.c (W.netA false false n))), (9, (Blk.c (AV.st [(W.netA false false (Prod.fst s)), (W.pkA (Prod.fst (Prod.snd s))), (AV.i (Prod.snd (Prod.snd s)))]))), (10, (Blk.c (AV.st [(W.netA false false (Prod.fst h)), (W.pkA (Prod.fst (Prod.snd h))), (AV.i (Prod.snd (Prod.snd h)))]))), (12, (Blk.c (W.pkA p))), (14, (Blk.c (AV.st [(W.netA false false (Prod.fst x)), (W.pkA (Prod.fst (Prod.snd x))), (AV.i (Prod.snd (Prod.snd x)))]))), (15, (Blk.c (AV.st [(W.netA false false (Prod.fst y)), (W.pkA (Prod.fst (Prod.snd y))), (AV.i (Prod.snd (Prod.snd y)))]))), (16, (Blk.c (AV.st [(W.netA false false (Prod.fst z)), (W.pkA (Prod.fst (Prod.snd z))), (AV.i (Prod.snd (Prod.snd z)))])))] [6, 9, 10, 12, 14, 15, 16])))))))) ∧
      ((!bw) = false →
      ((I64 (((i + 1) : Nat) : Int)) ∧
       (Φ Ex.normal (St.mk [(5, (AV.sb true)), (6, (AV.ptr 6 [])), (7, (AV.i ((a : Nat) : Int))), (8, (AV.i ((b : Nat) : Int))), (9, (AV.ptr 9 [])), (10, (AV.ptr 10 [])), (11, (AV.i (((i + 1) : Nat) : Int))), (12, (AV.ptr 12 [])), (13, (AV.sb bw)), (14, (AV.ptr 14 [])), (15, (AV.ptr 15 [])), (16, (AV.ptr 16 [])), (210, (AV.v (Value.bool false)))] [(6, (Blk.c (W.netA false false n))), (9, (Blk.c (AV.st [(W.netA false false (Prod.fst s)), (W.pkA (Prod.fst (Prod.snd s))), (AV.i (Prod.snd (Prod.snd s)))]))), (10, (Blk.c (AV.st [(W.netA false false (Prod.fst h)), (W.pkA (Prod.fst (Prod.snd h))), (AV.i (Prod.snd (Prod.snd h)))]))), (12, (Blk.c (W.pkA p))), (14, (Blk.c (AV.st [(W.netA false false (Prod.fst x)), (W.pkA (Prod.fst (Prod.snd x))), (AV.i (Prod.snd (Prod.snd x)))]))), (15, (Blk.c (AV.st [(W.netA false false (Prod.fst y)), (W.pkA (Prod.fst (Prod.snd y))), (AV.i (Prod.snd (Prod.snd y)))]))), (16, (Blk.c (AV.st [(W.netA false false (Prod.fst z)), (W.pkA (Prod.fst (Prod.snd z))), (AV.i (Prod.snd (Prod.snd z)))])))] [6, 9, 10, 12, 14, 15, 16])))))))))))))))) ∧
 (bw = false →
 (((!bw) = true →
  ((((Prod.snd (Prod.snd x)) != (Prod.snd (Prod.snd z))) = true →
   (Φ Ex.ret (St.mk [(4, (AV.v (Value.bool false))), (5, (AV.sb true)), (6, (AV.ptr 6 [])), (7, (AV.i ((a : Nat) : Int))), (8, (AV.i ((b : Nat) : Int))), (9, (AV.ptr 9 [])), (10, (AV.ptr 10 [])), (11, (AV.i ((i : Nat) : Int))), (12, (AV.ptr 12 [])), (13, (AV.sb bw)), (14, (AV.ptr 14 [])), (15, (AV.ptr 15 [])), (16, (AV.ptr 16 [])), (210, (AV.v (Value.bool true)))] [(6, (Blk.c (W.netA false false n))), (9, (Blk.c (AV.st [(W.netA false false (Prod.fst s)), (W.pkA (Prod.fst (Prod.snd s))), (AV.i (Prod.snd (Prod.snd s)))]))), (10, (Blk.c (AV.st [(W.netA false false (Prod.fst h)), (W.pkA (Prod.fst (Prod.snd h))), (AV.i (Prod.snd (Prod.snd h)))]))), (12, (Blk.c (W.pkA p))), (14, (Blk.c (AV.st [(W.netA false false (Prod.fst x)), (W.pkA (Prod.fst (Prod.snd x))), (AV.i (Prod.snd (Prod.snd x)))]))), (15, (Blk.c (AV.st [(W.netA false false (Prod.fst y)), (W.pkA (Prod.fst (Prod.snd y))), (AV.i (Prod.snd (Prod.snd y)))]))), (16, (Blk.c (AV.st [(W.netA false false (Prod.fst z)), (W.pkA (Prod.fst (Prod.snd z))), (AV.i (Prod.snd (Prod.snd z)))])))] [6, 9, 10, 12, 14, 15, 16]))) ∧
   (((Prod.snd (Prod.snd x)) != (Prod.snd (Prod.snd z))) = false →
   ((((Prod.snd (Prod.snd y)) != (Prod.snd (Prod.snd z))) = true →
    (Φ Ex.ret (St.mk [(4, (AV.v (Value.bool false))), (5, (AV.sb true)), (6, (AV.ptr 6 [])), (7, (AV.i ((a : Nat) : Int))), (8, (AV.i ((b : Nat) : Int))), (9, (AV.ptr 9 [])), (10, (AV.ptr 10 [])), (11, (AV.i ((i : Nat) : Int))), (12, (AV.ptr 12 [])), (13, (AV.sb bw)), (14, (AV.ptr 14 [])), (15, (AV.ptr 15 [])), (16, (AV.ptr 16 [])), (210, (AV.v (Value.bool true)))] [(6, (Blk.c (W.netA false false n))), (9, (Blk.c (AV.st [(W.netA false false (Prod.fst s)), (W.pkA (Prod.fst (Prod.snd s))), (AV.i (Prod.snd (Prod.snd s)))]))), (10, (Blk.c (AV.st [(W.netA false false (Prod.fst h)), (W.pkA (Prod.fst (Prod.snd h))), (AV.i (Prod.snd (Prod.snd h)))]))), (12, (Blk.c (W.pkA p))), (14, (Blk.c (AV.st [(W.netA false false (Prod.fst x)), (W.pkA (Prod.fst (Prod.snd x))), (AV.i (Prod.snd (Prod.snd x)))]))), (15, (Blk.c (AV.st [(W.netA false false (Prod.fst y)), (W.pkA (Prod.fst (Prod.snd y))), (AV.i (Prod.snd (Prod.snd y)))]))), (16, (Blk.c (AV.st [(W.netA false false (Prod.fst z)), (W.pkA (Prod.fst (Prod.snd z))), (AV.i (Prod.snd (Prod.snd z)))])))] [6, 9, 10, 12, 14, 15, 16]))) ∧
    (((Prod.snd (Prod.snd y)) != (Prod.snd (Prod.snd z))) = false →
    ((I64 (((i + 1) : Nat) : Int)) ∧
     (Φ Ex.normal (St.mk [(5, (AV.sb true)), (6, (AV.ptr 6 [])), (7, (AV.i ((a : Nat) : Int))), (8, (AV.i ((b : Nat) : Int))), (9, (AV.ptr 9 [])), (10, (AV.ptr 10 [])), (11, (AV.i (((i + 1) : Nat) : Int))), (12, (AV.ptr 12 [])), (13, (AV.sb bw)), (14, (AV.ptr 14 [])), (15, (AV.ptr 15 [])), (16, (AV.ptr 16 [])), (210, (AV.v (Value.bool false)))] [(6, (Blk.c (W.netA false false n))), (9, (Blk.c (AV.st [(W.netA false false (Prod.fst s)), (W.pkA (Prod.fst (Prod.snd s))), (AV.i (Prod.snd (Prod.snd s)))]))), (10, (Blk.c (AV.st [(W.netA false false (Prod.fst h)), (W.pkA (Prod.fst (Prod.snd h))), (AV.i (Prod.snd (Prod.snd h)))]))), (12, (Blk.c (W.pkA p))), (14, (Blk.c (AV.st [(W.netA false false (Prod.fst x)), (W.pkA (Prod.fst (Prod.snd x))), (AV.i (Prod.snd (Prod.snd x)))]))), (15, (Blk.c (AV.st [(W.netA false false (Prod.fst y)), (W.pkA (Prod.fst (Prod.snd y))), (AV.i (Prod.snd (Prod.snd y)))]))), (16, (Blk.c (AV.st [(W.netA false false (Prod.fst z)), (W.pkA (Prod.fst (Prod.snd z))), (AV.i (Prod.snd (Prod.snd z)))])))] [6, 9, 10, 12, 14, 15, 16])))))))) ∧
  ((!bw) = false →
  ((I64 (((i + 1) : Nat) : Int)) ∧
   (Φ Ex.normal (St.mk [(5, (AV.sb true)), (6, (AV.ptr 6 [])), (7, (AV.i ((a : Nat) : Int))), (8, (AV.i ((b : Nat) : Int))), (9, (AV.ptr 9 [])), (10, (AV.ptr 10 [])), (11, (AV.i (((i + 1) : Nat) : Int))), (12, (AV.ptr 12 [])), (13, (AV.sb bw)), (14, (AV.ptr 14 [])), (15, (AV.ptr 15 [])), (16, (AV.ptr 16 [])), (210, (AV.v (Value.bool false)))] [(6, (Blk.c (W.netA false false n))), (9, (Blk.c (AV.st [(W.netA false false (Prod.fst s)), (W.pkA (Prod.fst (Prod.snd s))), (AV.i (Prod.snd (Prod.snd s)))]))), (10, (Blk.c (AV.st [(W.netA false false (Prod.fst h)), (W.pkA (Prod.fst (Prod.snd h))), (AV.i (Prod.snd (Prod.snd h)))]))), (12, (Blk.c (W.pkA p))), (14, (Blk.c (AV.st [(W.netA false false (Prod.fst x)), (W.pkA (Prod.fst (Prod.snd x))), (AV.i (Prod.snd (Prod.snd x)))]))), (15, (Blk.c (AV.st [(W.netA false false (Prod.fst y)), (W.pkA (Prod.fst (Prod.snd y))), (AV.i (Prod.snd (Prod.snd y)))]))), (16, (Blk.c (AV.st [(W.netA false false (Prod.fst z)), (W.pkA (Prod.fst (Prod.snd z))), (AV.i (Prod.snd (Prod.snd z)))])))] [6, 9, 10, 12, 14, 15, 16]))))))) := by kernel_rfl
noncomputable abbrev bd_nlc_1 : Code := bodyAt (b_nlc) [1, 1, 1, 1, 1, 1, 1, 0, 1, 0]
theorem ok_nlc_1 : codeOK bd_nlc_1 = true := by kernel_rfl
noncomputable abbrev rest_nlc_1 (K : Nat) (Φ : Ex → St → Prop) : Ex → St → Prop := fun e S' => Holds C P 289 [] K Φ (after C w_nlc (b_nlc) [1, 1, 1, 1, 1, 1, 1, 0, 1, 0] [] lf e S')
theorem nlc_L1 (n : Net) (a b : Nat) (s h : TK) (c : Nat) (K : Nat) (Φ : Ex → St → Prop) :
  (Holds C P 289 [] K (RoundQ C 289 [] K (I_lc1 n a b s h) (fun c => c ≤ 5) (fun c => 5 - c) ((fun c => 5 - c) (c)) (rest_nlc_1 K Φ)) (vc C w_nlc bd_nlc_1 [] ((I_lc1 n a b s h) (c)) lf)) =
  (((decide (((c : Nat) : Int) < (5 : Int))) = true →
 (LoopOK W.C W.P 289 [] K (bodyAt bd_nlc_1 [1, 0, 0, 1, 0]) (St.mk [(5, (AV.sb true)), (6, (AV.ptr 6 [])), (7, (AV.i ((a : Nat) : Int))), (8, (AV.i ((b : Nat) : Int))), (9, (AV.ptr 9 [])), (10, (AV.ptr 10 [])), (17, (AV.i ((c : Nat) : Int))), (18, (AV.i (0 : Int))), (212, (AV.v (Value.bool true)))] [(6, (Blk.c (W.netA false false n))), (9, (Blk.c (AV.st [(W.netA false false (Prod.fst s)), (W.pkA (Prod.fst (Prod.snd s))), (AV.i (Prod.snd (Prod.snd s)))]))), (10, (Blk.c (AV.st [(W.netA false false (Prod.fst h)), (W.pkA (Prod.fst (Prod.snd h))), (AV.i (Prod.snd (Prod.snd h)))])))] [6, 9, 10]) (fun (e : Ex) (S' : St) => Holds W.C W.P 289 [] K (RoundQ C 289 [] K (I_lc1 n a b s h) (fun c => c ≤ 5) (fun c => 5 - c) ((fun c => 5 - c) (c)) (rest_nlc_1 K Φ)) (after W.C w_nlc bd_nlc_1 [1, 0, 0, 1, 0] [] lf e S')))) ∧
 ((decide (((c : Nat) : Int) < (5 : Int))) = false →
 (∃ (S2 : St), Ent W.C 289 [] K (St.mk [(5, (AV.sb true)), (6, (AV.ptr 6 [])), (7, (AV.i ((a : Nat) : Int))), (8, (AV.i ((b : Nat) : Int))), (9, (AV.ptr 9 [])), (10, (AV.ptr 10 [])), (17, (AV.i ((c : Nat) : Int))), (212, (AV.v (Value.bool false)))] [(6, (Blk.c (W.netA false false n))), (9, (Blk.c (AV.st [(W.netA false false (Prod.fst s)), (W.pkA (Prod.fst (Prod.snd s))), (AV.i (Prod.snd (Prod.snd s)))]))), (10, (Blk.c (AV.st [(W.netA false false (Prod.fst h)), (W.pkA (Prod.fst (Prod.snd h))), (AV.i (Prod.snd (Prod.snd h)))])))] [6, 9, 10]) S2 ∧ Holds W.C W.P 289 [] K Φ (cutAt W.C w_nlc b_nlc [1, 1, 1, 1, 1, 1, 1, 1, 0] S2 (after W.C w_nlc b_nlc [1, 1, 1, 1, 1, 1, 1, 1, 0] [] lf))))) := by kernel_rfl
noncomputable abbrev bd_nlc_2 : Code := bodyAt (bd_nlc_1) [1, 0, 0, 1, 0]
theorem ok_nlc_2 : codeOK bd_nlc_2 = true := by kernel_rfl
noncomputable abbrev rest_nlc_2 (K : Nat) (Φ : Ex → St → Prop) : Ex → St → Prop := fun e S' => Holds C P 289 [] K Φ (after C w_nlc (bd_nlc_1) [1, 0, 0, 1, 0] [] lf e S')
theorem nlc_L2 (n : Net) (a b : Nat) (s h : TK) (c : Nat) (d : Nat) (K : Nat) (Φ : Ex → St → Prop) :
  (Holds C P 289 [] K (RoundQ C 289 [] K (I_lc2 n a b s h c) (fun d => d ≤ 5) (fun d => 5 - d) ((fun d => 5 - d) (d)) (rest_nlc_2 K Φ)) (vc C w_nlc bd_nlc_2 [] ((I_lc2 n a b s h c) (d)) lf)) =
  (((decide (((d : Nat) : Int) < (5 : Int))) = true →
 (((((c : Nat) : Int) == ((a : Nat) : Int)) = true →
  (((((d : Nat) : Int) == ((b : Nat) : Int)) = true →
   (∃ (S2 : St), Ent W.C 289 [] K (St.mk [(5, (AV.sb true)), (6, (AV.ptr 6 [])), (7, (AV.i ((a : Nat) : Int))), (8, (AV.i ((b : Nat) : Int))), (9, (AV.ptr 9 [])), (10, (AV.ptr 10 [])), (17, (AV.i ((c : Nat) : Int))), (18, (AV.i ((d : Nat) : Int))), (19, (AV.v (Value.bool true))), (216, (AV.v (Value.bool true)))] [(6, (Blk.c (W.netA false false n))), (9, (Blk.c (AV.st [(W.netA false false (Prod.fst s)), (W.pkA (Prod.fst (Prod.snd s))), (AV.i (Prod.snd (Prod.snd s)))]))), (10, (Blk.c (AV.st [(W.netA false false (Prod.fst h)), (W.pkA (Prod.fst (Prod.snd h))), (AV.i (Prod.snd (Prod.snd h)))])))] [6, 9, 10]) S2 ∧ Holds W.C W.P 289 [] K (RoundQ C 289 [] K (I_lc2 n a b s h c) (fun d => d ≤ 5) (fun d => 5 - d) ((fun d => 5 - d) (d)) (rest_nlc_2 K Φ)) (cutAt W.C w_nlc bd_nlc_2 [1, 0, 0, 1, 0] S2 (after W.C w_nlc bd_nlc_2 [1, 0, 0, 1, 0] [] lf)))) ∧
   ((((d : Nat) : Int) == ((b : Nat) : Int)) = false →
   (((((c : Nat) : Int) == ((b : Nat) : Int)) = true →
    (∃ (S2 : St), Ent W.C 289 [] K (St.mk [(5, (AV.sb true)), (6, (AV.ptr 6 [])), (7, (AV.i ((a : Nat) : Int))), (8, (AV.i ((b : Nat) : Int))), (9, (AV.ptr 9 [])), (10, (AV.ptr 10 [])), (17, (AV.i ((c : Nat) : Int))), (18, (AV.i ((d : Nat) : Int))), (19, (AV.sb (((d : Nat) : Int) == ((a : Nat) : Int)))), (216, (AV.v (Value.bool true)))] [(6, (Blk.c (W.netA false false n))), (9, (Blk.c (AV.st [(W.netA false false (Prod.fst s)), (W.pkA (Prod.fst (Prod.snd s))), (AV.i (Prod.snd (Prod.snd s)))]))), (10, (Blk.c (AV.st [(W.netA false false (Prod.fst h)), (W.pkA (Prod.fst (Prod.snd h))), (AV.i (Prod.snd (Prod.snd h)))])))] [6, 9, 10]) S2 ∧ Holds W.C W.P 289 [] K (RoundQ C 289 [] K (I_lc2 n a b s h c) (fun d => d ≤ 5) (fun d => 5 - d) ((fun d => 5 - d) (d)) (rest_nlc_2 K Φ)) (cutAt W.C w_nlc bd_nlc_2 [1, 0, 0, 1, 0] S2 (after W.C w_nlc bd_nlc_2 [1, 0, 0, 1, 0] [] lf)))) ∧
    ((((c : Nat) : Int) == ((b : Nat) : Int)) = false →
    (∃ (S2 : St), Ent W.C 289 [] K (St.mk [(5, (AV.sb true)), (6, (AV.ptr 6 [])), (7, (AV.i ((a : Nat) : Int))), (8, (AV.i ((b : Nat) : Int))), (9, (AV.ptr 9 [])), (10, (AV.ptr 10 [])), (17, (AV.i ((c : Nat) : Int))), (18, (AV.i ((d : Nat) : Int))), (19, (AV.v (Value.bool false))), (216, (AV.v (Value.bool true)))] [(6, (Blk.c (W.netA false false n))), (9, (Blk.c (AV.st [(W.netA false false (Prod.fst s)), (W.pkA (Prod.fst (Prod.snd s))), (AV.i (Prod.snd (Prod.snd s)))]))), (10, (Blk.c (AV.st [(W.netA false false (Prod.fst h)), (W.pkA (Prod.fst (Prod.snd h))), (AV.i (Prod.snd (Prod.snd h)))])))] [6, 9, 10]) S2 ∧ Holds W.C W.P 289 [] K (RoundQ C 289 [] K (I_lc2 n a b s h c) (fun d => d ≤ 5) (fun d => 5 - d) ((fun d => 5 - d) (d)) (rest_nlc_2 K Φ)) (cutAt W.C w_nlc bd_nlc_2 [1, 0, 0, 1, 0] S2 (after W.C w_nlc bd_nlc_2 [1, 0, 0, 1, 0] [] lf)))))))) ∧
  ((((c : Nat) : Int) == ((a : Nat) : Int)) = false →
  (((((c : Nat) : Int) == ((b : Nat) : Int)) = true →
   (∃ (S2 : St), Ent W.C 289 [] K (St.mk [(5, (AV.sb true)), (6, (AV.ptr 6 [])), (7, (AV.i ((a : Nat) : Int))), (8, (AV.i ((b : Nat) : Int))), (9, (AV.ptr 9 [])), (10, (AV.ptr 10 [])), (17, (AV.i ((c : Nat) : Int))), (18, (AV.i ((d : Nat) : Int))), (19, (AV.sb (((d : Nat) : Int) == ((a : Nat) : Int)))), (216, (AV.v (Value.bool true)))] [(6, (Blk.c (W.netA false false n))), (9, (Blk.c (AV.st [(W.netA false false (Prod.fst s)), (W.pkA (Prod.fst (Prod.snd s))), (AV.i (Prod.snd (Prod.snd s)))]))), (10, (Blk.c (AV.st [(W.netA false false (Prod.fst h)), (W.pkA (Prod.fst (Prod.snd h))), (AV.i (Prod.snd (Prod.snd h)))])))] [6, 9, 10]) S2 ∧ Holds W.C W.P 289 [] K (RoundQ C 289 [] K (I_lc2 n a b s h c) (fun d => d ≤ 5) (fun d => 5 - d) ((fun d => 5 - d) (d)) (rest_nlc_2 K Φ)) (cutAt W.C w_nlc bd_nlc_2 [1, 0, 0, 1, 0] S2 (after W.C w_nlc bd_nlc_2 [1, 0, 0, 1, 0] [] lf)))) ∧
   ((((c : Nat) : Int) == ((b : Nat) : Int)) = false →
   (∃ (S2 : St), Ent W.C 289 [] K (St.mk [(5, (AV.sb true)), (6, (AV.ptr 6 [])), (7, (AV.i ((a : Nat) : Int))), (8, (AV.i ((b : Nat) : Int))), (9, (AV.ptr 9 [])), (10, (AV.ptr 10 [])), (17, (AV.i ((c : Nat) : Int))), (18, (AV.i ((d : Nat) : Int))), (19, (AV.v (Value.bool false))), (216, (AV.v (Value.bool true)))] [(6, (Blk.c (W.netA false false n))), (9, (Blk.c (AV.st [(W.netA false false (Prod.fst s)), (W.pkA (Prod.fst (Prod.snd s))), (AV.i (Prod.snd (Prod.snd s)))]))), (10, (Blk.c (AV.st [(W.netA false false (Prod.fst h)), (W.pkA (Prod.fst (Prod.snd h))), (AV.i (Prod.snd (Prod.snd h)))])))] [6, 9, 10]) S2 ∧ Holds W.C W.P 289 [] K (RoundQ C 289 [] K (I_lc2 n a b s h c) (fun d => d ≤ 5) (fun d => 5 - d) ((fun d => 5 - d) (d)) (rest_nlc_2 K Φ)) (cutAt W.C w_nlc bd_nlc_2 [1, 0, 0, 1, 0] S2 (after W.C w_nlc bd_nlc_2 [1, 0, 0, 1, 0] [] lf)))))))) ∧
 ((decide (((d : Nat) : Int) < (5 : Int))) = false →
 ((I64 (((c + 1) : Nat) : Int)) ∧
  (Φ Ex.normal (St.mk [(5, (AV.sb true)), (6, (AV.ptr 6 [])), (7, (AV.i ((a : Nat) : Int))), (8, (AV.i ((b : Nat) : Int))), (9, (AV.ptr 9 [])), (10, (AV.ptr 10 [])), (17, (AV.i (((c + 1) : Nat) : Int))), (18, (AV.i ((d : Nat) : Int))), (216, (AV.v (Value.bool false)))] [(6, (Blk.c (W.netA false false n))), (9, (Blk.c (AV.st [(W.netA false false (Prod.fst s)), (W.pkA (Prod.fst (Prod.snd s))), (AV.i (Prod.snd (Prod.snd s)))]))), (10, (Blk.c (AV.st [(W.netA false false (Prod.fst h)), (W.pkA (Prod.fst (Prod.snd h))), (AV.i (Prod.snd (Prod.snd h)))])))] [6, 9, 10]))))) := by kernel_rfl
theorem nlc_C23 (n : Net) (a b : Nat) (s h : TK) (c d : Nat) (sm : Bool) (K : Nat) (Φ : Ex → St → Prop) :
  (Holds C P 289 [] K Φ (cutAt C w_nlc bd_nlc_2 [1, 0, 0, 1, 0] (S_lc23 n a b s h c d sm) (after C w_nlc bd_nlc_2 [1, 0, 0, 1, 0] [] lf))) =
  (((!sm) = true →
 (Fun W.C W.P 19 [(W.netA false false (Prod.fst s)), (AV.i ((c : Nat) : Int)), (AV.i ((d : Nat) : Int))] [] (AV.sb (W.reachN (W.toN (W.netA false false (Prod.fst s))) ((c : Nat) : Int) ((d : Nat) : Int))) [] ∧
  (True ∧
  (Fun W.C W.P 19 [(W.netA false false n), (AV.i ((c : Nat) : Int)), (AV.i ((d : Nat) : Int))] [] (AV.sb (W.reachN (W.toN (W.netA false false n)) ((c : Nat) : Int) ((d : Nat) : Int))) [] ∧
  (True ∧
  (((! ((W.reachN (W.toN (W.netA false false (Prod.fst s))) ((c : Nat) : Int) ((d : Nat) : Int)) == (W.reachN (W.toN (W.netA false false n)) ((c : Nat) : Int) ((d : Nat) : Int)))) = true →
  (Φ Ex.ret (St.mk [(4, (AV.v (Value.bool false))), (5, (AV.sb true)), (6, (AV.ptr 6 [])), (7, (AV.i ((a : Nat) : Int))), (8, (AV.i ((b : Nat) : Int))), (9, (AV.ptr 9 [])), (10, (AV.ptr 10 [])), (17, (AV.i ((c : Nat) : Int))), (18, (AV.i ((d : Nat) : Int))), (19, (AV.sb sm)), (262, (AV.v (Value.bool true)))] [(6, (Blk.c (W.netA false false n))), (9, (Blk.c (AV.st [(W.netA false false (Prod.fst s)), (W.pkA (Prod.fst (Prod.snd s))), (AV.i (Prod.snd (Prod.snd s)))]))), (10, (Blk.c (AV.st [(W.netA false false (Prod.fst h)), (W.pkA (Prod.fst (Prod.snd h))), (AV.i (Prod.snd (Prod.snd h)))])))] [6, 9, 10]))) ∧
  ((! ((W.reachN (W.toN (W.netA false false (Prod.fst s))) ((c : Nat) : Int) ((d : Nat) : Int)) == (W.reachN (W.toN (W.netA false false n)) ((c : Nat) : Int) ((d : Nat) : Int)))) = false →
  (Fun W.C W.P 19 [(W.netA false false (Prod.fst h)), (AV.i ((c : Nat) : Int)), (AV.i ((d : Nat) : Int))] [] (AV.sb (W.reachN (W.toN (W.netA false false (Prod.fst h))) ((c : Nat) : Int) ((d : Nat) : Int))) [] ∧
   (True ∧
   (Fun W.C W.P 19 [(W.netA false false n), (AV.i ((c : Nat) : Int)), (AV.i ((d : Nat) : Int))] [] (AV.sb (W.reachN (W.toN (W.netA false false n)) ((c : Nat) : Int) ((d : Nat) : Int))) [] ∧
   (True ∧
   (((! ((W.reachN (W.toN (W.netA false false (Prod.fst h))) ((c : Nat) : Int) ((d : Nat) : Int)) == (W.reachN (W.toN (W.netA false false n)) ((c : Nat) : Int) ((d : Nat) : Int)))) = true →
   (Φ Ex.ret (St.mk [(4, (AV.v (Value.bool false))), (5, (AV.sb true)), (6, (AV.ptr 6 [])), (7, (AV.i ((a : Nat) : Int))), (8, (AV.i ((b : Nat) : Int))), (9, (AV.ptr 9 [])), (10, (AV.ptr 10 [])), (17, (AV.i ((c : Nat) : Int))), (18, (AV.i ((d : Nat) : Int))), (19, (AV.sb sm)), (262, (AV.v (Value.bool true)))] [(6, (Blk.c (W.netA false false n))), (9, (Blk.c (AV.st [(W.netA false false (Prod.fst s)), (W.pkA (Prod.fst (Prod.snd s))), (AV.i (Prod.snd (Prod.snd s)))]))), (10, (Blk.c (AV.st [(W.netA false false (Prod.fst h)), (W.pkA (Prod.fst (Prod.snd h))), (AV.i (Prod.snd (Prod.snd h)))])))] [6, 9, 10]))) ∧
   ((! ((W.reachN (W.toN (W.netA false false (Prod.fst h))) ((c : Nat) : Int) ((d : Nat) : Int)) == (W.reachN (W.toN (W.netA false false n)) ((c : Nat) : Int) ((d : Nat) : Int)))) = false →
   ((I64 (((d + 1) : Nat) : Int)) ∧
    (Φ Ex.normal (St.mk [(5, (AV.sb true)), (6, (AV.ptr 6 [])), (7, (AV.i ((a : Nat) : Int))), (8, (AV.i ((b : Nat) : Int))), (9, (AV.ptr 9 [])), (10, (AV.ptr 10 [])), (17, (AV.i ((c : Nat) : Int))), (18, (AV.i (((d + 1) : Nat) : Int))), (19, (AV.sb sm)), (262, (AV.v (Value.bool false)))] [(6, (Blk.c (W.netA false false n))), (9, (Blk.c (AV.st [(W.netA false false (Prod.fst s)), (W.pkA (Prod.fst (Prod.snd s))), (AV.i (Prod.snd (Prod.snd s)))]))), (10, (Blk.c (AV.st [(W.netA false false (Prod.fst h)), (W.pkA (Prod.fst (Prod.snd h))), (AV.i (Prod.snd (Prod.snd h)))])))] [6, 9, 10])))))))))))))))) ∧
 ((!sm) = false →
 ((I64 (((d + 1) : Nat) : Int)) ∧
  (Φ Ex.normal (St.mk [(5, (AV.sb true)), (6, (AV.ptr 6 [])), (7, (AV.i ((a : Nat) : Int))), (8, (AV.i ((b : Nat) : Int))), (9, (AV.ptr 9 [])), (10, (AV.ptr 10 [])), (17, (AV.i ((c : Nat) : Int))), (18, (AV.i (((d + 1) : Nat) : Int))), (19, (AV.sb sm)), (262, (AV.v (Value.bool false)))] [(6, (Blk.c (W.netA false false n))), (9, (Blk.c (AV.st [(W.netA false false (Prod.fst s)), (W.pkA (Prod.fst (Prod.snd s))), (AV.i (Prod.snd (Prod.snd s)))]))), (10, (Blk.c (AV.st [(W.netA false false (Prod.fst h)), (W.pkA (Prod.fst (Prod.snd h))), (AV.i (Prod.snd (Prod.snd h)))])))] [6, 9, 10]))))) := by kernel_rfl
theorem nlc_C25 (n : Net) (a b : Nat) (s h : TK) (K : Nat) (Φ : Ex → St → Prop) :
  (Holds C P 289 [] K Φ (cutAt C w_nlc b_nlc [1, 1, 1, 1, 1, 1, 1, 1, 0] (S_lc6 n a b s h) (after C w_nlc b_nlc [1, 1, 1, 1, 1, 1, 1, 1, 0] [] lf))) =
  (Fun W.C W.P 21 [(W.netA false false (Prod.fst s)), (AV.i (3 : Int)), (AV.arr 2 1 (layParts (fun (x : Nat) => (AV.i (0 : Int))) [(0, (AV.i ((a : Nat) : Int))), (1, (AV.i ((b : Nat) : Int)))]))] [] (AV.st [(W.netA false false (W.doneN (W.toN (W.netA false false (Prod.fst s))) (3 : Int) (((a : Nat) : Int), ((b : Nat) : Int)))), (AV.st [(AV.i (0 : Int)), (AV.i (0 : Int)), (AV.i (0 : Int))]), (AV.i (W.doneE (W.toN (W.netA false false (Prod.fst s))) (3 : Int) (((a : Nat) : Int), ((b : Nat) : Int))))]) [] ∧
 (((W.ShK) ∧ ((W.ShK) ∧ (((true = true) ∧ (true = true)) ∧ True))) ∧
 (Fun W.C W.P 15 [(W.netA false false (W.doneN (W.toN (W.netA false false (Prod.fst s))) (3 : Int) (((a : Nat) : Int), ((b : Nat) : Int)))), (W.netA false false (Prod.fst h))] [] (AV.sb (W.sameB (W.toN (W.netA false false (W.doneN (W.toN (W.netA false false (Prod.fst s))) (3 : Int) (((a : Nat) : Int), ((b : Nat) : Int))))) (W.toN (W.netA false false (Prod.fst h))))) [] ∧
 (True ∧
 (((W.sameB (W.toN (W.netA false false (W.doneN (W.toN (W.netA false false (Prod.fst s))) (3 : Int) (((a : Nat) : Int), ((b : Nat) : Int))))) (W.toN (W.netA false false (Prod.fst h)))) = true →
 (Fun W.C W.P 21 [(W.netA false false (Prod.fst s)), (AV.i (2 : Int)), (AV.arr 2 1 (layParts (fun (x : Nat) => (AV.i (0 : Int))) [(0, (AV.i ((b : Nat) : Int))), (1, (AV.i ((a : Nat) : Int)))]))] [] (AV.st [(W.netA false false (W.doneN (W.toN (W.netA false false (Prod.fst s))) (2 : Int) (((b : Nat) : Int), ((a : Nat) : Int)))), (AV.st [(AV.i (0 : Int)), (AV.i (0 : Int)), (AV.i (0 : Int))]), (AV.i (W.doneE (W.toN (W.netA false false (Prod.fst s))) (2 : Int) (((b : Nat) : Int), ((a : Nat) : Int))))]) [] ∧
  (Fun W.C W.P 15 [(W.netA false false (W.doneN (W.toN (W.netA false false (Prod.fst s))) (2 : Int) (((b : Nat) : Int), ((a : Nat) : Int)))), (W.netA false false (Prod.fst s))] [] (AV.sb (W.sameB (W.toN (W.netA false false (W.doneN (W.toN (W.netA false false (Prod.fst s))) (2 : Int) (((b : Nat) : Int), ((a : Nat) : Int))))) (W.toN (W.netA false false (Prod.fst s))))) [] ∧
  (True ∧
  (((W.sameB (W.toN (W.netA false false (W.doneN (W.toN (W.netA false false (Prod.fst s))) (2 : Int) (((b : Nat) : Int), ((a : Nat) : Int))))) (W.toN (W.netA false false (Prod.fst s)))) = true →
  (Φ Ex.ret (St.mk [(4, (AV.sb true)), (5, (AV.sb true)), (6, (AV.ptr 6 [])), (7, (AV.i ((a : Nat) : Int))), (8, (AV.i ((b : Nat) : Int))), (9, (AV.ptr 9 [])), (10, (AV.ptr 10 [])), (20, (AV.ptr 20 []))] [(6, (Blk.c (W.netA false false n))), (9, (Blk.c (AV.st [(W.netA false false (Prod.fst s)), (W.pkA (Prod.fst (Prod.snd s))), (AV.i (Prod.snd (Prod.snd s)))]))), (10, (Blk.c (AV.st [(W.netA false false (Prod.fst h)), (W.pkA (Prod.fst (Prod.snd h))), (AV.i (Prod.snd (Prod.snd h)))]))), (20, (Blk.c (AV.st [(W.netA false false (W.doneN (W.toN (W.netA false false (Prod.fst s))) (3 : Int) (((a : Nat) : Int), ((b : Nat) : Int)))), (AV.st [(AV.i (0 : Int)), (AV.i (0 : Int)), (AV.i (0 : Int))]), (AV.i (W.doneE (W.toN (W.netA false false (Prod.fst s))) (3 : Int) (((a : Nat) : Int), ((b : Nat) : Int))))])))] [20, 6, 9, 10]))) ∧
  ((W.sameB (W.toN (W.netA false false (W.doneN (W.toN (W.netA false false (Prod.fst s))) (2 : Int) (((b : Nat) : Int), ((a : Nat) : Int))))) (W.toN (W.netA false false (Prod.fst s)))) = false →
  (Φ Ex.ret (St.mk [(4, (AV.v (Value.bool false))), (5, (AV.sb true)), (6, (AV.ptr 6 [])), (7, (AV.i ((a : Nat) : Int))), (8, (AV.i ((b : Nat) : Int))), (9, (AV.ptr 9 [])), (10, (AV.ptr 10 [])), (20, (AV.ptr 20 []))] [(6, (Blk.c (W.netA false false n))), (9, (Blk.c (AV.st [(W.netA false false (Prod.fst s)), (W.pkA (Prod.fst (Prod.snd s))), (AV.i (Prod.snd (Prod.snd s)))]))), (10, (Blk.c (AV.st [(W.netA false false (Prod.fst h)), (W.pkA (Prod.fst (Prod.snd h))), (AV.i (Prod.snd (Prod.snd h)))]))), (20, (Blk.c (AV.st [(W.netA false false (W.doneN (W.toN (W.netA false false (Prod.fst s))) (3 : Int) (((a : Nat) : Int), ((b : Nat) : Int)))), (AV.st [(AV.i (0 : Int)), (AV.i (0 : Int)), (AV.i (0 : Int))]), (AV.i (W.doneE (W.toN (W.netA false false (Prod.fst s))) (3 : Int) (((a : Nat) : Int), ((b : Nat) : Int))))])))] [20, 6, 9, 10])))))))) ∧
 ((W.sameB (W.toN (W.netA false false (W.doneN (W.toN (W.netA false false (Prod.fst s))) (3 : Int) (((a : Nat) : Int), ((b : Nat) : Int))))) (W.toN (W.netA false false (Prod.fst h)))) = false →
 (Φ Ex.ret (St.mk [(4, (AV.v (Value.bool false))), (5, (AV.sb true)), (6, (AV.ptr 6 [])), (7, (AV.i ((a : Nat) : Int))), (8, (AV.i ((b : Nat) : Int))), (9, (AV.ptr 9 [])), (10, (AV.ptr 10 [])), (20, (AV.ptr 20 []))] [(6, (Blk.c (W.netA false false n))), (9, (Blk.c (AV.st [(W.netA false false (Prod.fst s)), (W.pkA (Prod.fst (Prod.snd s))), (AV.i (Prod.snd (Prod.snd s)))]))), (10, (Blk.c (AV.st [(W.netA false false (Prod.fst h)), (W.pkA (Prod.fst (Prod.snd h))), (AV.i (Prod.snd (Prod.snd h)))]))), (20, (Blk.c (AV.st [(W.netA false false (W.doneN (W.toN (W.netA false false (Prod.fst s))) (3 : Int) (((a : Nat) : Int), ((b : Nat) : Int)))), (AV.st [(AV.i (0 : Int)), (AV.i (0 : Int)), (AV.i (0 : Int))]), (AV.i (W.doneE (W.toN (W.netA false false (Prod.fst s))) (3 : Int) (((a : Nat) : Int), ((b : Nat) : Int))))])))] [20, 6, 9, 10])))))))) := by kernel_rfl
theorem bw_1 {a b c d : Int} (h1 : c = a) (h2 : d = b) : decide (ofI c d = ofI a b) = true := decide_eq_true ((ofI_iff _ _ _ _).2 (.inl ⟨h1, h2⟩))
theorem bw_2 {a b c d : Int} (h1 : c = b) (h2 : ¬ (c = a ∧ d = b)) : (d == a) = decide (ofI c d = ofI a b) := by
  rw [beq_dec]
  refine decide_eq_decide.2 ?_
  rw [ofI_iff]
  exact ⟨fun h => .inr ⟨h1, h⟩, fun h => (h.resolve_left h2).2⟩
theorem bw_3 {a b c d : Int} (h1 : c ≠ b) (h2 : ¬ (c = a ∧ d = b)) : decide (ofI c d = ofI a b) = false := decide_eq_false fun h => by
  rcases (ofI_iff _ _ _ _).1 h with h | h
  · exact h2 h
  · exact h1 h.1
theorem beq_no {a b : Int} (h : (a == b) = false) : a ≠ b := fun e => by rw [e] at h; simp at h
theorem nlc_fun (ex : Bool) (l : List Tri) (w : NN) : Fun C P F_nlc [dTri ex l, twA w] [] (.sb true) [] := by
  refine in_nlc (W := w_nlc) rfl 0 (by simp) rfl (fun id h => absurd rfl h) ?_
  refine of_eq (nlc_A ex l w 0 _) ?_
  have el : tlL l = l := toTL_A l
  rw [el]
  obtain ⟨a, ha⟩ : ∃ a, a = two w.1 w.2 0 % 5 := ⟨_, rfl⟩
  obtain ⟨b, hb⟩ : ∃ b, b = two w.1 w.2 1 % 5 := ⟨_, rfl⟩
  rw [← ha, ← hb]
  have ha5 : a < 5 := by omega
  have hb5 : b < 5 := by omega
  clear ha hb
  have hv0 := VN.made l 20
  have hcl0 := made_cuts l
  obtain ⟨n, hn⟩ : ∃ n, n = madeN l := ⟨_, rfl⟩
  have hv : VN n := hn ▸ hv0
  have hmade : Fun C P F_made [dTri ex l] [] (netD n) [] := hn ▸ made_fun ex l
  rw [← hn] at hcl0 ⊢
  refine ⟨sanity_fun, trivial, hmade, (by first | omega | decide | (unfold I64; omega)), (by first | omega | decide | (unfold I64; omega)), (by first | omega | decide | (unfold I64; omega)), (by first | omega | decide | (unfold I64; omega)), (by first | omega | decide | (unfold I64; omega)), (by first | omega | decide | (unfold I64; omega)), by simp, cut_ok (S2 := S_lc3 n a b) (ent_of [(6, 6)] rfl (tm_cons rfl (sm_same rfl) (tm_cons rfl (sm_ptr rfl) (tm_cons rfl (sm_same rfl) (tm_cons rfl (sm_same rfl) tm_nil)))) (hp_cons rfl rfl (sm_same rfl) hp_nil)) ?_⟩
  clear hmade hn hv0 el
  have e0 : toN (netD n) = n := toN_net false false n
  refine of_eq (nlc_C3 n a b 0 _) ?_
  rw [e0]
  refine ⟨fun q => ?_, fun q => ?_⟩
  · have q := eq_of_beq q
    have hp : partsB (a : Int) (b : Int) = false := Bool.eq_false_iff.2 fun hp => by
      simp only [partsB, Bool.and_eq_true, decide_eq_true_eq] at hp; omega
    have h2 : doneE n 2 ((a : Int), (b : Int)) = 1 := by show sevE n _ _ = 1; unfold sevE; rw [hp]; rfl
    have h3 : doneE n 3 ((a : Int), (b : Int)) = 1 := by show healE _ _ = 1; unfold healE; rw [hp]; rfl
    have hr : reachN n (a : Int) (b : Int) = true := by
      rw [hv.reach, decide_eq_false]; rfl
      intro hm
      obtain ⟨hp2, he⟩ := hv.2.2.2.1 _ hm
      rw [(show ofI (a : Int) (b : Int) = ((a : Int), (b : Int)) by unfold ofI; rw [q, Int.min_self, Int.max_self])] at hp2
      rw [hp] at hp2; cases hp2
    exact ⟨done_pair hv 2 _ _, fun _ => ⟨done_pair hv 3 _ _, fun _ => ⟨reach_fun hv _ _, trivial, fun _ => post_tmp rfl (sm_sb rfl), fun q => (tf_no hr q).elim⟩, fun q => (tf_no (by rw [h3]; rfl) q).elim⟩, fun q => (tf_no (by rw [h2]; rfl) q).elim⟩
  have q := beq_no q
  have hp : partsB (a : Int) (b : Int) = true := by simp only [partsB, Bool.and_eq_true, decide_eq_true_eq]; omega
  have hp' : partsB (b : Int) (a : Int) = true := by simp only [partsB, Bool.and_eq_true, decide_eq_true_eq]; omega
  have hl : n.cuts.length < 200 := by omega
  obtain ⟨s, hs⟩ : ∃ s : TK, s = (doneN n 2 ((a : Int), (b : Int)), (0, 0, 0), doneE n 2 ((a : Int), (b : Int))) := ⟨_, rfl⟩
  obtain ⟨h, hh⟩ : ∃ h : TK, h = (doneN n 3 ((b : Int), (a : Int)), (0, 0, 0), doneE n 3 ((b : Int), (a : Int))) := ⟨_, rfl⟩
  have s1 : s.1 = sevN n (a : Int) (b : Int) := by rw [hs]; rfl
  have h1 : h.1 = healN n (b : Int) (a : Int) := by rw [hh]; rfl
  have vs : VN s.1 := by rw [s1]; exact hv.sev _ _
  have vh : VN h.1 := by rw [h1]; exact hv.heal _ _
  have sE : s.2.2 = 0 := by
    rw [hs]; show sevE n _ _ = 0
    unfold sevE; rw [if_pos hp, if_pos hl]; split <;> rfl
  have hE : h.2.2 = 0 := by rw [hh]; show healE _ _ = 0; unfold healE; rw [if_pos hp']
  have sf : s.1.fly = n.fly := by rw [s1]; exact sev_fly _ _ _
  have hf : h.1.fly = n.fly := by rw [h1]; exact heal_fly _ _ _
  have rs : ∀ c d, reachN s.1 c d = (reachN n c d && !decide (ofI c d = ofI (a : Int) (b : Int))) := fun c d => by rw [s1]; exact hv.sev_reach hp hl c d
  have rh : ∀ c d, reachN h.1 c d = (reachN n c d || decide (ofI c d = ofI (a : Int) (b : Int))) := fun c d => by rw [h1, hv.heal_reach hp' c d, ofI_comm (b : Int)]
  have back : healN s.1 (a : Int) (b : Int) = h.1 := by
    rw [s1, heal_sev hv hp, h1]
    unfold healN; rw [if_pos hp, if_pos hp', ofI_comm]
  have again : sevN s.1 (b : Int) (a : Int) = s.1 := by
    unfold sevN
    rw [rs, ofI_comm (b : Int), decide_eq_true rfl]
    simp
  refine ⟨done_pair hv 2 _ _, done_pair hv 3 _ _, by simp, by simp, cut_ok (S2 := S_lc6 n a b s h) (ent_of [(6, 6), (9, 9), (10, 10)] rfl (tm_cons rfl (sm_same rfl) (tm_cons rfl (sm_ptr rfl) (tm_cons rfl (sm_same rfl) (tm_cons rfl (sm_same rfl) (tm_cons rfl (sm_ptr rfl) (tm_cons rfl (sm_ptr rfl) tm_nil)))))) (hp_cons rfl rfl (sm_same rfl) (hp_cons rfl rfl (sm_eq rfl (by rw [hs])) (hp_cons rfl rfl (sm_eq rfl (by rw [hh])) hp_nil)))) ?_⟩
  clear hs hh s1 h1
  have e1 : toN (netD s.1) = s.1 := toN_net false false _
  have e2 : toN (netD h.1) = h.1 := toN_net false false _
  refine of_eq (nlc_C6 n a b s h 0 _) ?_
  rw [e1, e2]
  have r1 : reachN s.1 (a : Int) (b : Int) = false := by rw [rs, decide_eq_true rfl, Bool.not_true, Bool.and_false]
  have r2 : reachN s.1 (b : Int) (a : Int) = false := by rw [rs, ofI_comm (b : Int), decide_eq_true rfl, Bool.not_true, Bool.and_false]
  have r3 : reachN h.1 (a : Int) (b : Int) = true := by rw [rh, decide_eq_true rfl, Bool.or_true]
  have r4 : reachN h.1 (b : Int) (a : Int) = true := by rw [rh, ofI_comm (b : Int), decide_eq_true rfl, Bool.or_true]
  refine ⟨fun q => (ne_no sE q).elim, fun _ => ⟨fun q => (ne_no hE q).elim, fun _ => ⟨rvalid_ok vs, trivial, fun q => (nt_no (valid_ok vs) q).elim, fun _ => ⟨rvalid_ok vh, trivial, fun q => (nt_no (valid_ok vh) q).elim, fun _ => ⟨reach_fun vs _ _, trivial, fun q => (tf_no q r1).elim, fun _ => ⟨reach_fun vs _ _, trivial, fun q => (tf_no q r2).elim, fun _ => ⟨reach_fun vh _ _, trivial, fun q => (nt_no r3 q).elim, fun _ => ⟨reach_fun vh _ _, trivial, fun q => (nt_no r4 q).elim, fun _ => ?_⟩⟩⟩⟩⟩⟩⟩⟩
  refine loop_inv (W := w_nlc) ctx mixed ok_nlc_0 (I_lc0 n a b s h) (fun i => i ≤ n.fly.length) (fun i => n.fly.length - i) 0 (Nat.zero_le _) ?_ fun i hi => ?_
  · exact ent_of [(6, 6), (9, 9), (10, 10)] rfl (tm_cons rfl (sm_same rfl) (tm_cons rfl (sm_ptr rfl) (tm_cons rfl (sm_same rfl) (tm_cons rfl (sm_same rfl) (tm_cons rfl (sm_ptr rfl) (tm_cons rfl (sm_ptr rfl) (tm_cons rfl (sm_same rfl) tm_nil))))))) (hp_cons rfl rfl (sm_same rfl) (hp_cons rfl rfl (sm_same rfl) (hp_cons rfl rfl (sm_same rfl) hp_nil)))
  have hfl := hv.2.2.2.2
  refine of_eq (nlc_L0 n a b s h i 0 _) ⟨fun g => ?_, fun g => ?_⟩
  · have g := of_decide_eq_true g
    have hlt : i < n.fly.length := by omega
    obtain ⟨p, hpk⟩ : ∃ p, p = kAt n.fly i := ⟨_, rfl⟩
    obtain ⟨x1, x2, x3⟩ := vs.take_of sf hlt
    obtain ⟨y1, y2, y3⟩ := vh.take_of hf hlt
    obtain ⟨z1, _, _⟩ := hv.take_of rfl hlt
    rw [← hpk] at x1 x2 x3 y1 y2 y3 z1
    rw [rs] at x1 x2 x3
    rw [rh] at y1 y2 y3
    have key : ∀ bw : Bool, bw = decide (ofI p.2.1 p.2.2 = ofI (a : Int) (b : Int)) → Holds C P 289 [] 0 (RoundQ C 289 [] 0 (I_lc0 n a b s h) (fun i => i ≤ n.fly.length) (fun i => n.fly.length - i) (n.fly.length - i) (rest_nlc_0 0 (FunPost C 289 0 [.tmp 4] (.sb true) []))) (cutAt C w_nlc bd_nlc_0 [1, 0, 0, 1, 1, 0] (S_lc13 n a b s h i p bw) (after C w_nlc bd_nlc_0 [1, 0, 0, 1, 1, 0] [] lf)) := fun bw hbw => by
      rw [← hbw] at x1 x2 x3 y1 y2 y3
      refine of_eq (nlc_C13 n a b s h i p bw 0 _) ?_
      rw [e0, e1, e2]
      obtain ⟨x, hx⟩ : ∃ x : TK, x = (takeN s.1 p.1, takeP s.1 p.1, takeE s.1 p.1) := ⟨_, rfl⟩
      obtain ⟨y, hy⟩ : ∃ y : TK, y = (takeN h.1 p.1, takeP h.1 p.1, takeE h.1 p.1) := ⟨_, rfl⟩
      obtain ⟨z, hz⟩ : ∃ z : TK, z = (takeN n p.1, takeP n p.1, takeE n p.1) := ⟨_, rfl⟩
      have vx : VN x.1 := by rw [hx]; exact vs.take _
      refine ⟨taken_fun vs _, taken_fun vh _, taken_fun hv _, by simp, by simp, by simp, cut_ok (S2 := S_lc14 n a b s h i p bw x y z) (ent_of [(6, 6), (9, 9), (10, 10), (12, 12), (14, 14), (15, 15), (16, 16)] rfl (tm_cons rfl (sm_same rfl) (tm_cons rfl (sm_ptr rfl) (tm_cons rfl (sm_same rfl) (tm_cons rfl (sm_same rfl) (tm_cons rfl (sm_ptr rfl) (tm_cons rfl (sm_ptr rfl) (tm_cons rfl (sm_same rfl) (tm_cons rfl (sm_ptr rfl) (tm_cons rfl (sm_same rfl) (tm_cons rfl (sm_ptr rfl) (tm_cons rfl (sm_ptr rfl) (tm_cons rfl (sm_ptr rfl) tm_nil)))))))))))) (hp_cons rfl rfl (sm_same rfl) (hp_cons rfl rfl (sm_same rfl) (hp_cons rfl rfl (sm_same rfl) (hp_cons rfl rfl (sm_same rfl) (hp_cons rfl rfl (sm_eq rfl (by rw [hx])) (hp_cons rfl rfl (sm_eq rfl (by rw [hy])) (hp_cons rfl rfl (sm_eq rfl (by rw [hz])) hp_nil)))))))) ?_⟩
      have e3 : toN (netD x.1) = x.1 := toN_net false false _
      refine of_eq (nlc_C14 n a b s h i p bw x y z 0 _) ?_
      rw [e1, e3, pk_eq]
      have xE : x.2.2 = takeE s.1 p.1 := by rw [hx]
      have yE : y.2.2 = takeE h.1 p.1 := by rw [hy]
      have zE : z.2.2 = takeE n p.1 := by rw [hz]
      have done : ∀ (Q : Prop), Q → I64 ((i + 1 : Nat) : Int) ∧ Q := fun Q hq => ⟨(by first | omega | decide | (unfold I64; omega)), hq⟩
      cases bw with
      | true =>
        rw [Bool.not_true, Bool.and_false] at x1 x2
        rw [Bool.or_true] at y1 y3
        have ex : x.2.2 = 320 := by rw [xE, x1]; rfl
        have ey : y.2.2 = 0 := by rw [yE, y1]; rfl
        have nx : x.1 = s.1 := by rw [hx]; exact x2 rfl
        have py : y.2.1 = p := by rw [hy]; exact y3 rfl
        refine ⟨fun _ => ⟨fun q => (ne_no ex q).elim, fun _ => ⟨same_ok vx, trivial, fun q => (nt_no (by rw [nx]; exact same_self _) q).elim, fun _ => ⟨fun q => (ne_no ey q).elim, fun _ => ⟨fun q => (nt_no (decide_eq_true py) q).elim, fun _ => ⟨fun q => (by cases q), fun _ => ?_⟩⟩⟩⟩⟩, fun q => (by cases q)⟩
        exact done _ (round_end (i + 1) (by omega) (ent_of [(6, 6), (9, 9), (10, 10)] rfl (tm_cons rfl (sm_same rfl) (tm_cons rfl (sm_ptr rfl) (tm_cons rfl (sm_same rfl) (tm_cons rfl (sm_same rfl) (tm_cons rfl (sm_ptr rfl) (tm_cons rfl (sm_ptr rfl) (tm_cons rfl (sm_same rfl) tm_nil))))))) (hp_cons rfl rfl (sm_same rfl) (hp_cons rfl rfl (sm_same rfl) (hp_cons rfl rfl (sm_same rfl) hp_nil)))) (by omega))
      | false =>
        rw [Bool.not_false, Bool.and_true] at x1
        rw [Bool.or_false] at y1
        have ex : x.2.2 = z.2.2 := by rw [xE, zE, x1, z1]
        have ey : y.2.2 = z.2.2 := by rw [yE, zE, y1, z1]
        refine ⟨fun q => (by cases q), fun _ => ⟨fun _ => ⟨fun q => (ne_no ex q).elim, fun _ => ⟨fun q => (ne_no ey q).elim, fun _ => ?_⟩⟩, fun q => (by cases q)⟩⟩
        exact done _ (round_end (i + 1) (by omega) (ent_of [(6, 6), (9, 9), (10, 10)] rfl (tm_cons rfl (sm_same rfl) (tm_cons rfl (sm_ptr rfl) (tm_cons rfl (sm_same rfl) (tm_cons rfl (sm_same rfl) (tm_cons rfl (sm_ptr rfl) (tm_cons rfl (sm_ptr rfl) (tm_cons rfl (sm_same rfl) tm_nil))))))) (hp_cons rfl rfl (sm_same rfl) (hp_cons rfl rfl (sm_same rfl) (hp_cons rfl rfl (sm_same rfl) hp_nil)))) (by omega))
    rw [← hpk]
    refine ⟨(by first | omega | decide | (unfold I64; omega)), by simp, fun c1 => ⟨fun c2 => ?_, fun c2 => ⟨fun c3 => ?_, fun c3 => ?_⟩⟩, fun c1 => ⟨fun c3 => ?_, fun c3 => ?_⟩⟩
    · exact cut_ok (S2 := S_lc13 n a b s h i p true) (ent_of [(6, 6), (9, 9), (10, 10), (12, 12)] rfl (tm_cons rfl (sm_same rfl) (tm_cons rfl (sm_ptr rfl) (tm_cons rfl (sm_same rfl) (tm_cons rfl (sm_same rfl) (tm_cons rfl (sm_ptr rfl) (tm_cons rfl (sm_ptr rfl) (tm_cons rfl (sm_same rfl) (tm_cons rfl (sm_ptr rfl) (tm_cons rfl (sm_b rfl) tm_nil))))))))) (hp_cons rfl rfl (sm_same rfl) (hp_cons rfl rfl (sm_same rfl) (hp_cons rfl rfl (sm_same rfl) (hp_cons rfl rfl (sm_same rfl) hp_nil))))) (key true (bw_1 (eq_of_beq c1) (eq_of_beq c2)).symm)
    · exact cut_ok (S2 := S_lc13 n a b s h i p (p.2.2 == (a : Int))) (ent_of [(6, 6), (9, 9), (10, 10), (12, 12)] rfl (tm_cons rfl (sm_same rfl) (tm_cons rfl (sm_ptr rfl) (tm_cons rfl (sm_same rfl) (tm_cons rfl (sm_same rfl) (tm_cons rfl (sm_ptr rfl) (tm_cons rfl (sm_ptr rfl) (tm_cons rfl (sm_same rfl) (tm_cons rfl (sm_ptr rfl) (tm_cons rfl (sm_same rfl) tm_nil))))))))) (hp_cons rfl rfl (sm_same rfl) (hp_cons rfl rfl (sm_same rfl) (hp_cons rfl rfl (sm_same rfl) (hp_cons rfl rfl (sm_same rfl) hp_nil))))) (key _ (bw_2 (eq_of_beq c3) fun e => beq_no c2 e.2))
    · exact cut_ok (S2 := S_lc13 n a b s h i p false) (ent_of [(6, 6), (9, 9), (10, 10), (12, 12)] rfl (tm_cons rfl (sm_same rfl) (tm_cons rfl (sm_ptr rfl) (tm_cons rfl (sm_same rfl) (tm_cons rfl (sm_same rfl) (tm_cons rfl (sm_ptr rfl) (tm_cons rfl (sm_ptr rfl) (tm_cons rfl (sm_same rfl) (tm_cons rfl (sm_ptr rfl) (tm_cons rfl (sm_b rfl) tm_nil))))))))) (hp_cons rfl rfl (sm_same rfl) (hp_cons rfl rfl (sm_same rfl) (hp_cons rfl rfl (sm_same rfl) (hp_cons rfl rfl (sm_same rfl) hp_nil))))) (key _ (bw_3 (beq_no c3) fun e => beq_no c2 e.2).symm)
    · exact cut_ok (S2 := S_lc13 n a b s h i p (p.2.2 == (a : Int))) (ent_of [(6, 6), (9, 9), (10, 10), (12, 12)] rfl (tm_cons rfl (sm_same rfl) (tm_cons rfl (sm_ptr rfl) (tm_cons rfl (sm_same rfl) (tm_cons rfl (sm_same rfl) (tm_cons rfl (sm_ptr rfl) (tm_cons rfl (sm_ptr rfl) (tm_cons rfl (sm_same rfl) (tm_cons rfl (sm_ptr rfl) (tm_cons rfl (sm_same rfl) tm_nil))))))))) (hp_cons rfl rfl (sm_same rfl) (hp_cons rfl rfl (sm_same rfl) (hp_cons rfl rfl (sm_same rfl) (hp_cons rfl rfl (sm_same rfl) hp_nil))))) (key _ (bw_2 (eq_of_beq c3) fun e => beq_no c1 e.1))
    · exact cut_ok (S2 := S_lc13 n a b s h i p false) (ent_of [(6, 6), (9, 9), (10, 10), (12, 12)] rfl (tm_cons rfl (sm_same rfl) (tm_cons rfl (sm_ptr rfl) (tm_cons rfl (sm_same rfl) (tm_cons rfl (sm_same rfl) (tm_cons rfl (sm_ptr rfl) (tm_cons rfl (sm_ptr rfl) (tm_cons rfl (sm_same rfl) (tm_cons rfl (sm_ptr rfl) (tm_cons rfl (sm_b rfl) tm_nil))))))))) (hp_cons rfl rfl (sm_same rfl) (hp_cons rfl rfl (sm_same rfl) (hp_cons rfl rfl (sm_same rfl) (hp_cons rfl rfl (sm_same rfl) hp_nil))))) (key _ (bw_3 (beq_no c3) fun e => beq_no c1 e.1).symm)
  refine loop_inv (W := w_nlc) ctx mixed ok_nlc_1 (I_lc1 n a b s h) (fun c => c ≤ 5) (fun c => 5 - c) 0 (Nat.zero_le _) ?_ fun c hc => ?_
  · exact ent_of [(6, 6), (9, 9), (10, 10)] rfl (tm_cons rfl (sm_same rfl) (tm_cons rfl (sm_ptr rfl) (tm_cons rfl (sm_same rfl) (tm_cons rfl (sm_same rfl) (tm_cons rfl (sm_ptr rfl) (tm_cons rfl (sm_ptr rfl) (tm_cons rfl (sm_same rfl) tm_nil))))))) (hp_cons rfl rfl (sm_same rfl) (hp_cons rfl rfl (sm_same rfl) (hp_cons rfl rfl (sm_same rfl) hp_nil)))
  refine of_eq (nlc_L1 n a b s h c 0 _) ⟨fun g => ?_, fun g => ?_⟩
  · have g := of_decide_eq_true g
    refine loop_inv (W := w_nlc) ctx mixed ok_nlc_2 (I_lc2 n a b s h c) (fun d => d ≤ 5) (fun d => 5 - d) 0 (Nat.zero_le _) ?_ fun d hd => ?_
    · exact ent_of [(6, 6), (9, 9), (10, 10)] rfl (tm_cons rfl (sm_same rfl) (tm_cons rfl (sm_ptr rfl) (tm_cons rfl (sm_same rfl) (tm_cons rfl (sm_same rfl) (tm_cons rfl (sm_ptr rfl) (tm_cons rfl (sm_ptr rfl) (tm_cons rfl (sm_same rfl) (tm_cons rfl (sm_same rfl) tm_nil)))))))) (hp_cons rfl rfl (sm_same rfl) (hp_cons rfl rfl (sm_same rfl) (hp_cons rfl rfl (sm_same rfl) hp_nil)))
    have key2 : ∀ sm : Bool, sm = decide (ofI (c : Int) (d : Int) = ofI (a : Int) (b : Int)) → d < 5 → Holds C P 289 [] 0 (RoundQ C 289 [] 0 (I_lc2 n a b s h c) (fun d => d ≤ 5) (fun d => 5 - d) (5 - d) (rest_nlc_2 0 (RoundQ C 289 [] 0 (I_lc1 n a b s h) (fun c => c ≤ 5) (fun c => 5 - c) (5 - c) (rest_nlc_1 0 (FunPost C 289 0 [.tmp 4] (.sb true) []))))) (cutAt C w_nlc bd_nlc_2 [1, 0, 0, 1, 0] (S_lc23 n a b s h c d sm) (after C w_nlc bd_nlc_2 [1, 0, 0, 1, 0] [] lf)) := fun sm hsm hd5 => by
      have xs := rs (c : Int) (d : Int)
      have xh := rh (c : Int) (d : Int)
      rw [← hsm] at xs xh
      refine of_eq (nlc_C23 n a b s h c d sm 0 _) ?_
      rw [e0, e1, e2]
      have fin : I64 ((d + 1 : Nat) : Int) := (by first | omega | decide | (unfold I64; omega))
      cases sm with
      | true => exact ⟨fun q => (by cases q), fun _ => ⟨fin, round_end (d + 1) (by omega) (ent_of [(6, 6), (9, 9), (10, 10)] rfl (tm_cons rfl (sm_same rfl) (tm_cons rfl (sm_ptr rfl) (tm_cons rfl (sm_same rfl) (tm_cons rfl (sm_same rfl) (tm_cons rfl (sm_ptr rfl) (tm_cons rfl (sm_ptr rfl) (tm_cons rfl (sm_same rfl) (tm_cons rfl (sm_same rfl) tm_nil)))))))) (hp_cons rfl rfl (sm_same rfl) (hp_cons rfl rfl (sm_same rfl) (hp_cons rfl rfl (sm_same rfl) hp_nil)))) (by omega)⟩⟩
      | false =>
        rw [Bool.not_false, Bool.and_true] at xs
        rw [Bool.or_false] at xh
        exact ⟨fun _ => ⟨reach_fun vs _ _, trivial, reach_fun hv _ _, trivial, fun q => (nt_no (by rw [xs]; exact beq_self_eq_true _) q).elim, fun _ => ⟨reach_fun vh _ _, trivial, reach_fun hv _ _, trivial, fun q => (nt_no (by rw [xh]; exact beq_self_eq_true _) q).elim, fun _ => ⟨fin, round_end (d + 1) (by omega) (ent_of [(6, 6), (9, 9), (10, 10)] rfl (tm_cons rfl (sm_same rfl) (tm_cons rfl (sm_ptr rfl) (tm_cons rfl (sm_same rfl) (tm_cons rfl (sm_same rfl) (tm_cons rfl (sm_ptr rfl) (tm_cons rfl (sm_ptr rfl) (tm_cons rfl (sm_same rfl) (tm_cons rfl (sm_same rfl) tm_nil)))))))) (hp_cons rfl rfl (sm_same rfl) (hp_cons rfl rfl (sm_same rfl) (hp_cons rfl rfl (sm_same rfl) hp_nil)))) (by omega)⟩⟩⟩, fun q => (by cases q)⟩
    refine of_eq (nlc_L2 n a b s h c d 0 _) ⟨fun g2 => ?_, fun g2 => ⟨(by first | omega | decide | (unfold I64; omega)), round_end (c + 1) (by omega) (ent_of [(6, 6), (9, 9), (10, 10)] rfl (tm_cons rfl (sm_same rfl) (tm_cons rfl (sm_ptr rfl) (tm_cons rfl (sm_same rfl) (tm_cons rfl (sm_same rfl) (tm_cons rfl (sm_ptr rfl) (tm_cons rfl (sm_ptr rfl) (tm_cons rfl (sm_same rfl) tm_nil))))))) (hp_cons rfl rfl (sm_same rfl) (hp_cons rfl rfl (sm_same rfl) (hp_cons rfl rfl (sm_same rfl) hp_nil)))) (by dsimp only; omega)⟩⟩
    have g2 := of_decide_eq_true g2
    have hd5 : d < 5 := by omega
    refine ⟨fun c1 => ⟨fun c2 => ?_, fun c2 => ⟨fun c3 => ?_, fun c3 => ?_⟩⟩, fun c1 => ⟨fun c3 => ?_, fun c3 => ?_⟩⟩
    · exact cut_ok (S2 := S_lc23 n a b s h c d true) (ent_of [(6, 6), (9, 9), (10, 10)] rfl (tm_cons rfl (sm_same rfl) (tm_cons rfl (sm_ptr rfl) (tm_cons rfl (sm_same rfl) (tm_cons rfl (sm_same rfl) (tm_cons rfl (sm_ptr rfl) (tm_cons rfl (sm_ptr rfl) (tm_cons rfl (sm_same rfl) (tm_cons rfl (sm_same rfl) (tm_cons rfl (sm_b rfl) tm_nil))))))))) (hp_cons rfl rfl (sm_same rfl) (hp_cons rfl rfl (sm_same rfl) (hp_cons rfl rfl (sm_same rfl) hp_nil)))) (key2 true (bw_1 (eq_of_beq c1) (eq_of_beq c2)).symm hd5)
    · exact cut_ok (S2 := S_lc23 n a b s h c d ((d : Int) == (a : Int))) (ent_of [(6, 6), (9, 9), (10, 10)] rfl (tm_cons rfl (sm_same rfl) (tm_cons rfl (sm_ptr rfl) (tm_cons rfl (sm_same rfl) (tm_cons rfl (sm_same rfl) (tm_cons rfl (sm_ptr rfl) (tm_cons rfl (sm_ptr rfl) (tm_cons rfl (sm_same rfl) (tm_cons rfl (sm_same rfl) (tm_cons rfl (sm_same rfl) tm_nil))))))))) (hp_cons rfl rfl (sm_same rfl) (hp_cons rfl rfl (sm_same rfl) (hp_cons rfl rfl (sm_same rfl) hp_nil)))) (key2 _ (bw_2 (eq_of_beq c3) fun e => beq_no c2 e.2) hd5)
    · exact cut_ok (S2 := S_lc23 n a b s h c d false) (ent_of [(6, 6), (9, 9), (10, 10)] rfl (tm_cons rfl (sm_same rfl) (tm_cons rfl (sm_ptr rfl) (tm_cons rfl (sm_same rfl) (tm_cons rfl (sm_same rfl) (tm_cons rfl (sm_ptr rfl) (tm_cons rfl (sm_ptr rfl) (tm_cons rfl (sm_same rfl) (tm_cons rfl (sm_same rfl) (tm_cons rfl (sm_b rfl) tm_nil))))))))) (hp_cons rfl rfl (sm_same rfl) (hp_cons rfl rfl (sm_same rfl) (hp_cons rfl rfl (sm_same rfl) hp_nil)))) (key2 _ (bw_3 (beq_no c3) fun e => beq_no c2 e.2).symm hd5)
    · exact cut_ok (S2 := S_lc23 n a b s h c d ((d : Int) == (a : Int))) (ent_of [(6, 6), (9, 9), (10, 10)] rfl (tm_cons rfl (sm_same rfl) (tm_cons rfl (sm_ptr rfl) (tm_cons rfl (sm_same rfl) (tm_cons rfl (sm_same rfl) (tm_cons rfl (sm_ptr rfl) (tm_cons rfl (sm_ptr rfl) (tm_cons rfl (sm_same rfl) (tm_cons rfl (sm_same rfl) (tm_cons rfl (sm_same rfl) tm_nil))))))))) (hp_cons rfl rfl (sm_same rfl) (hp_cons rfl rfl (sm_same rfl) (hp_cons rfl rfl (sm_same rfl) hp_nil)))) (key2 _ (bw_2 (eq_of_beq c3) fun e => beq_no c1 e.1) hd5)
    · exact cut_ok (S2 := S_lc23 n a b s h c d false) (ent_of [(6, 6), (9, 9), (10, 10)] rfl (tm_cons rfl (sm_same rfl) (tm_cons rfl (sm_ptr rfl) (tm_cons rfl (sm_same rfl) (tm_cons rfl (sm_same rfl) (tm_cons rfl (sm_ptr rfl) (tm_cons rfl (sm_ptr rfl) (tm_cons rfl (sm_same rfl) (tm_cons rfl (sm_same rfl) (tm_cons rfl (sm_b rfl) tm_nil))))))))) (hp_cons rfl rfl (sm_same rfl) (hp_cons rfl rfl (sm_same rfl) (hp_cons rfl rfl (sm_same rfl) hp_nil)))) (key2 _ (bw_3 (beq_no c3) fun e => beq_no c1 e.1).symm hd5)
  · refine cut_ok (S2 := S_lc6 n a b s h) (ent_of [(6, 6), (9, 9), (10, 10)] rfl (tm_cons rfl (sm_same rfl) (tm_cons rfl (sm_ptr rfl) (tm_cons rfl (sm_same rfl) (tm_cons rfl (sm_same rfl) (tm_cons rfl (sm_ptr rfl) (tm_cons rfl (sm_ptr rfl) tm_nil)))))) (hp_cons rfl rfl (sm_same rfl) (hp_cons rfl rfl (sm_same rfl) (hp_cons rfl rfl (sm_same rfl) hp_nil)))) ?_
    refine of_eq (nlc_C25 n a b s h 0 _) ?_
    have d3 : doneN s.1 3 ((a : Int), (b : Int)) = h.1 := back
    have d2 : doneN s.1 2 ((b : Int), (a : Int)) = s.1 := again
    have f3 := done_pair vs 3 (a : Int) (b : Int)
    have f2 := done_pair vs 2 (b : Int) (a : Int)
    rw [d3] at f3
    rw [d2] at f2
    rw [e1, d3, d2, e1, e2]
    exact ⟨f3, by simp, same_ok vh, trivial, fun _ => ⟨f2, same_ok vs, trivial, fun _ => post_tmp rfl (sm_sb rfl), fun q => (tf_no (same_self _) q).elim⟩, fun q => (tf_no (same_self _) q).elim⟩
theorem typed_two {n : Nat} {x : AV} (h : Typed C.tt (n + 2) 52 x) : ∃ p : NN, (p.1 < 256 ∧ p.2 < 256) ∧ sim some x (twA p) := by
  obtain ⟨z, hz, f, rfl, hf⟩ := typed_u8s (e := 5) (m := 2) rfl rfl rfl h
  refine ⟨(z 0, z 1), ⟨hz 0 (by decide), hz 1 (by decide)⟩, rfl, rfl, fun i hi => .inl ?_⟩
  match i, hi with
  | 0, _ => exact hf 0 (by decide)
  | 1, _ => exact hf 1 (by decide)
theorem nlc_law {x0 x1 : AV} (h0 : Typed C.tt 6 22 x0) (h1 : Typed C.tt 6 52 x1) : Fun C P F_nlc [x0, x1] [] (.sb true) [] := by
  obtain ⟨l, ex, _, _, s0⟩ := typed_tris h0
  obtain ⟨w, _, s1⟩ := typed_two h1
  exact (nlc_fun ex l w).sim ⟨s0, .inr s1, trivial⟩ trivial
end Go.Bu.W

