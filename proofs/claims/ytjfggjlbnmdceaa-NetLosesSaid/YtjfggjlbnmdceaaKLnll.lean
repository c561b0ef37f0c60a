/- NetLoses. -/
import Derived.Test.YtjfggjlbnmdceaaKNQ
namespace Go.Bu.W
def wayLl (keep : List Nat) (nt : Nat) (cuts : List Nat) : Way := ⟨crN9, byrefI, keep, [], nt, cuts⟩
def w_nll : Way := wayLl [0, 1, 4, 5, 6, 7, 8, 9, 10, 11, 18, 73, 79, 85, 99] 133 [3,7]
def S_ll3 (n : Net) (k : Nat) : St := { tm := [(1, u8 k), (5, .sb true), (6, .ptr 6 [])], hp := [(6, .c (netD n))], seen := [6] }
def S_ll7 (n : Net) (i : Nat) (t : Net × Pk × Int) : St := { tm := [(5, .sb true), (6, .ptr 6 []), (7, i64 i), (8, .ptr 8 [])], hp := [(6, .c (netD n)), (8, .c (sT t))], seen := [6, 8] }
def I_ll (n : Net) (i : Nat) (t : Net × Pk × Int) (j : Nat) : St := { tm := [(5, .sb true), (6, .ptr 6 []), (7, i64 i), (8, .ptr 8 []), (9, i64 j)], hp := [(6, .c (netD n)), (8, .c (sT t))], seen := [6, 8] }

theorem nll_A (ex : Bool) (l : List Tri) (k : Nat) (K : Nat) (Φ : Ex → St → Prop) :
  (Holds C P 133 [] K Φ (vc C w_nll b_nll [] (start [dTri ex l, u8 k] []) lf)) =
  (Fun W.C W.P 11 [] [] (AV.sb true) [] ∧
 (True ∧
 (Fun W.C W.P 12 [(W.dTri ex l)] [] (W.netA false false (W.madeN (W.tlL l))) [] ∧
 ((W.ShK) ∧
 (∃ (S2 : St), Ent W.C 133 [] K (St.mk [(0, (W.dTri ex l)), (1, (AV.v (Value.int IntKind.u8 ((k : Nat) : Int)))), (4, (AV.v (Value.bool false))), (5, (AV.sb true)), (6, (AV.ptr 6 []))] [(6, (Blk.c (W.netA false false (W.madeN (W.tlL l)))))] [6]) S2 ∧ Holds W.C W.P 133 [] K Φ (cutAt W.C w_nll b_nll [1, 1, 1, 0, 0] S2 (after W.C w_nll b_nll [1, 1, 1, 0, 0] [] lf))))))) := by kernel_rfl
theorem nll_C3 (n : Net) (k : Nat) (K : Nat) (Φ : Ex → St → Prop) :
  (Holds C P 133 [] K Φ (cutAt C w_nll b_nll [1, 1, 1, 0, 0] (S_ll3 n k) (after C w_nll b_nll [1, 1, 1, 0, 0] [] lf))) =
  ((((((List.length (W.Net.fly n)) : Nat) : Int) == (0 : Int)) = true →
 ((I64 ((k : Nat) : Int)) ∧
  (Fun W.C W.P 21 [(W.netA false false n), (AV.i (0 : Int)), (AV.arr 2 1 (layParts (fun (x : Nat) => (AV.i (0 : Int))) [(0, (AV.i ((k : Nat) : Int))), (1, (AV.i (0 : Int)))]))] [] (AV.st [(W.netA false false (W.doneN (W.toN (W.netA false false n)) (0 : Int) (((k : Nat) : Int), (0 : Int)))), (AV.st [(AV.i (0 : Int)), (AV.i (0 : Int)), (AV.i (0 : Int))]), (AV.i (W.doneE (W.toN (W.netA false false n)) (0 : Int) (((k : Nat) : Int), (0 : Int))))]) [] ∧
  ((((W.doneE (W.toN (W.netA false false n)) (0 : Int) (((k : Nat) : Int), (0 : Int))) == (90 : Int)) = true →
  (Φ Ex.ret (St.mk [(1, (AV.v (Value.int IntKind.u8 ((k : Nat) : Int)))), (4, (AV.sb true)), (5, (AV.sb true)), (6, (AV.ptr 6 [])), (18, (AV.v (Value.bool true)))] [(6, (Blk.c (W.netA false false n)))] [6]))) ∧
  (((W.doneE (W.toN (W.netA false false n)) (0 : Int) (((k : Nat) : Int), (0 : Int))) == (90 : Int)) = false →
  (Φ Ex.ret (St.mk [(1, (AV.v (Value.int IntKind.u8 ((k : Nat) : Int)))), (4, (AV.v (Value.bool false))), (5, (AV.sb true)), (6, (AV.ptr 6 [])), (18, (AV.v (Value.bool true)))] [(6, (Blk.c (W.netA false false n)))] [6]))))))) ∧
 (((((List.length (W.Net.fly n)) : Nat) : Int) == (0 : Int)) = false →
 ((I64 ((k : Nat) : Int)) ∧
  (((((List.length (W.Net.fly n)) : Nat) : Int) ≠ (0 : Int)) ∧
  ((((0 : Int) ≤ (((k % (List.length (W.Net.fly n))) : Nat) : Int)) ∧ ((((k % (List.length (W.Net.fly n))) : Nat) : Int) < (((List.length (W.Net.fly n)) : Nat) : Int))) ∧
  (Fun W.C W.P 21 [(W.netA false false n), (AV.i (0 : Int)), (AV.arr 2 1 (layParts (fun (x : Nat) => (AV.i (0 : Int))) [(0, (AV.i (Prod.fst (W.kAt (W.Net.fly n) (k % (List.length (W.Net.fly n))))))), (1, (AV.i (0 : Int)))]))] [] (AV.st [(W.netA false false (W.doneN (W.toN (W.netA false false n)) (0 : Int) ((Prod.fst (W.kAt (W.Net.fly n) (k % (List.length (W.Net.fly n))))), (0 : Int)))), (AV.st [(AV.i (0 : Int)), (AV.i (0 : Int)), (AV.i (0 : Int))]), (AV.i (W.doneE (W.toN (W.netA false false n)) (0 : Int) ((Prod.fst (W.kAt (W.Net.fly n) (k % (List.length (W.Net.fly n))))), (0 : Int))))]) [] ∧
  (((W.ShK) ∧ ((W.ShK) ∧ (((true = true) ∧ (true = true)) ∧ True))) ∧
  (∃ (S2 : St), Ent W.C 133 [] K (St.mk [(1, (AV.v (Value.int IntKind.u8 ((k : Nat) : Int)))), (5, (AV.sb true)), (6, (AV.ptr 6 [])), (7, (AV.i (((k % (List.length (W.Net.fly n))) : Nat) : Int))), (8, (AV.ptr 8 [])), (18, (AV.v (Value.bool false)))] [(6, (Blk.c (W.netA false false n))), (8, (Blk.c (AV.st [(W.netA false false (W.doneN (W.toN (W.netA false false n)) (0 : Int) ((Prod.fst (W.kAt (W.Net.fly n) (k % (List.length (W.Net.fly n))))), (0 : Int)))), (AV.st [(AV.i (0 : Int)), (AV.i (0 : Int)), (AV.i (0 : Int))]), (AV.i (W.doneE (W.toN (W.netA false false n)) (0 : Int) ((Prod.fst (W.kAt (W.Net.fly n) (k % (List.length (W.Net.fly n))))), (0 : Int))))])))] [8, 6]) S2 ∧ Holds W.C W.P 133 [] K Φ (cutAt W.C w_nll b_nll [1, 1, 1, 1, 1, 1, 0, 0] S2 (after W.C w_nll b_nll [1, 1, 1, 1, 1, 1, 0, 0] [] lf)))))))))) := by kernel_rfl
theorem nll_C7 (n : Net) (i : Nat) (t : Net × Pk × Int) (K : Nat) (Φ : Ex → St → Prop) :
  (Holds C P 133 [] K Φ (cutAt C w_nll b_nll [1, 1, 1, 1, 1, 1, 0, 0] (S_ll7 n i t) (after C w_nll b_nll [1, 1, 1, 1, 1, 1, 0, 0] [] lf))) =
  ((((Prod.snd (Prod.snd t)) != (0 : Int)) = true →
 (Φ Ex.ret (St.mk [(4, (AV.v (Value.bool false))), (5, (AV.sb true)), (6, (AV.ptr 6 [])), (7, (AV.i ((i : Nat) : Int))), (8, (AV.ptr 8 [])), (73, (AV.v (Value.bool true)))] [(6, (Blk.c (W.netA false false n))), (8, (Blk.c (AV.st [(W.netA false false (Prod.fst t)), (W.pkA (Prod.fst (Prod.snd t))), (AV.i (Prod.snd (Prod.snd t)))])))] [6, 8]))) ∧
 (((Prod.snd (Prod.snd t)) != (0 : Int)) = false →
 (Fun W.C W.P 27 [(W.netA false false (Prod.fst t))] [] (AV.sb (W.vB (W.toN (W.netA false false (Prod.fst t))))) [] ∧
  (True ∧
  (((! (W.vB (W.toN (W.netA false false (Prod.fst t))))) = true →
  (Φ Ex.ret (St.mk [(4, (AV.v (Value.bool false))), (5, (AV.sb true)), (6, (AV.ptr 6 [])), (7, (AV.i ((i : Nat) : Int))), (8, (AV.ptr 8 [])), (73, (AV.v (Value.bool true)))] [(6, (Blk.c (W.netA false false n))), (8, (Blk.c (AV.st [(W.netA false false (Prod.fst t)), (W.pkA (Prod.fst (Prod.snd t))), (AV.i (Prod.snd (Prod.snd t)))])))] [6, 8]))) ∧
  ((! (W.vB (W.toN (W.netA false false (Prod.fst t))))) = false →
  ((I64 ((((List.length (W.Net.fly n)) : Nat) : Int) - (1 : Int))) ∧
   ((((((List.length (W.Net.fly (Prod.fst t))) : Nat) : Int) != ((((List.length (W.Net.fly n)) : Nat) : Int) - (1 : Int))) = true →
   (Φ Ex.ret (St.mk [(4, (AV.v (Value.bool false))), (5, (AV.sb true)), (6, (AV.ptr 6 [])), (7, (AV.i ((i : Nat) : Int))), (8, (AV.ptr 8 [])), (73, (AV.v (Value.bool true)))] [(6, (Blk.c (W.netA false false n))), (8, (Blk.c (AV.st [(W.netA false false (Prod.fst t)), (W.pkA (Prod.fst (Prod.snd t))), (AV.i (Prod.snd (Prod.snd t)))])))] [6, 8]))) ∧
   (((((List.length (W.Net.fly (Prod.fst t))) : Nat) : Int) != ((((List.length (W.Net.fly n)) : Nat) : Int) - (1 : Int))) = false →
   ((((((List.length (W.Net.cuts (Prod.fst t))) : Nat) : Int) != (((List.length (W.Net.cuts n)) : Nat) : Int)) = true →
    (Φ Ex.ret (St.mk [(4, (AV.v (Value.bool false))), (5, (AV.sb true)), (6, (AV.ptr 6 [])), (7, (AV.i ((i : Nat) : Int))), (8, (AV.ptr 8 [])), (73, (AV.v (Value.bool true)))] [(6, (Blk.c (W.netA false false n))), (8, (Blk.c (AV.st [(W.netA false false (Prod.fst t)), (W.pkA (Prod.fst (Prod.snd t))), (AV.i (Prod.snd (Prod.snd t)))])))] [6, 8]))) ∧
    (((((List.length (W.Net.cuts (Prod.fst t))) : Nat) : Int) != (((List.length (W.Net.cuts n)) : Nat) : Int)) = false →
    (LoopOK W.C W.P 133 [] K (bodyAt b_nll [1, 1, 1, 1, 1, 1, 1, 0, 1, 0]) (St.mk [(5, (AV.sb true)), (6, (AV.ptr 6 [])), (7, (AV.i ((i : Nat) : Int))), (8, (AV.ptr 8 [])), (9, (AV.i (0 : Int))), (73, (AV.v (Value.bool false)))] [(6, (Blk.c (W.netA false false n))), (8, (Blk.c (AV.st [(W.netA false false (Prod.fst t)), (W.pkA (Prod.fst (Prod.snd t))), (AV.i (Prod.snd (Prod.snd t)))])))] [6, 8]) (fun (e : Ex) (S' : St) => Holds W.C W.P 133 [] K Φ (after W.C w_nll b_nll [1, 1, 1, 1, 1, 1, 1, 0, 1, 0] [] lf e S')))))))))))))) := by kernel_rfl
noncomputable abbrev bd_nll_0 : Code := bodyAt (b_nll) [1, 1, 1, 1, 1, 1, 1, 0, 1, 0]
theorem ok_nll_0 : codeOK bd_nll_0 = true := by kernel_rfl
noncomputable abbrev rest_nll_0 (K : Nat) (Φ : Ex → St → Prop) : Ex → St → Prop := fun e S' => Holds C P 133 [] K Φ (after C w_nll (b_nll) [1, 1, 1, 1, 1, 1, 1, 0, 1, 0] [] lf e S')
theorem nll_L0 (n : Net) (i : Nat) (t : Net × Pk × Int) (j : Nat) (K : Nat) (Φ : Ex → St → Prop) :
  (Holds C P 133 [] K (RoundQ C 133 [] K (I_ll n i t) (fun j => j ≤ t.1.fly.length) (fun j => t.1.fly.length - j) ((fun j => t.1.fly.length - j) (j)) (rest_nll_0 K Φ)) (vc C w_nll bd_nll_0 [] ((I_ll n i t) (j)) lf)) =
  (((decide (((j : Nat) : Int) < (((List.length (W.Net.fly (Prod.fst t))) : Nat) : Int))) = true →
 (((decide (((j : Nat) : Int) ≥ ((i : Nat) : Int))) = true →
  ((I64 (((j + 1) : Nat) : Int)) ∧
   ((((0 : Int) ≤ ((j : Nat) : Int)) ∧ (((j : Nat) : Int) < (((List.length (W.Net.fly (Prod.fst t))) : Nat) : Int))) ∧
   ((((0 : Int) ≤ (((j + 1) : Nat) : Int)) ∧ ((((j + 1) : Nat) : Int) < (((List.length (W.Net.fly n)) : Nat) : Int))) ∧
   (((! (((Prod.fst (W.kAt (W.Net.fly (Prod.fst t)) j)) == (Prod.fst (W.kAt (W.Net.fly n) (j + 1)))) && (((Prod.fst (Prod.snd (W.kAt (W.Net.fly (Prod.fst t)) j))) == (Prod.fst (Prod.snd (W.kAt (W.Net.fly n) (j + 1))))) && (((Prod.snd (Prod.snd (W.kAt (W.Net.fly (Prod.fst t)) j))) == (Prod.snd (Prod.snd (W.kAt (W.Net.fly n) (j + 1))))) && true)))) = true →
   (Φ Ex.ret (St.mk [(4, (AV.v (Value.bool false))), (5, (AV.sb true)), (6, (AV.ptr 6 [])), (7, (AV.i ((i : Nat) : Int))), (8, (AV.ptr 8 [])), (9, (AV.i ((j : Nat) : Int))), (10, (AV.i (((j + 1) : Nat) : Int))), (79, (AV.v (Value.bool true))), (85, (AV.v (Value.bool true))), (99, (AV.v (Value.bool true)))] [(6, (Blk.c (W.netA false false n))), (8, (Blk.c (AV.st [(W.netA false false (Prod.fst t)), (W.pkA (Prod.fst (Prod.snd t))), (AV.i (Prod.snd (Prod.snd t)))])))] [6, 8]))) ∧
   ((! (((Prod.fst (W.kAt (W.Net.fly (Prod.fst t)) j)) == (Prod.fst (W.kAt (W.Net.fly n) (j + 1)))) && (((Prod.fst (Prod.snd (W.kAt (W.Net.fly (Prod.fst t)) j))) == (Prod.fst (Prod.snd (W.kAt (W.Net.fly n) (j + 1))))) && (((Prod.snd (Prod.snd (W.kAt (W.Net.fly (Prod.fst t)) j))) == (Prod.snd (Prod.snd (W.kAt (W.Net.fly n) (j + 1))))) && true)))) = false →
   ((I64 (((j + 1) : Nat) : Int)) ∧
    ((RoundQ C 133 [] K (I_ll n i t) (fun j => j ≤ t.1.fly.length) (fun j => t.1.fly.length - j) ((fun j => t.1.fly.length - j) (j)) (rest_nll_0 K Φ)) Ex.normal (St.mk [(5, (AV.sb true)), (6, (AV.ptr 6 [])), (7, (AV.i ((i : Nat) : Int))), (8, (AV.ptr 8 [])), (9, (AV.i (((j + 1) : Nat) : Int))), (10, (AV.i (((j + 1) : Nat) : Int))), (79, (AV.v (Value.bool true))), (85, (AV.v (Value.bool true))), (99, (AV.v (Value.bool false)))] [(6, (Blk.c (W.netA false false n))), (8, (Blk.c (AV.st [(W.netA false false (Prod.fst t)), (W.pkA (Prod.fst (Prod.snd t))), (AV.i (Prod.snd (Prod.snd t)))])))] [6, 8]))))))))) ∧
  ((decide (((j : Nat) : Int) ≥ ((i : Nat) : Int))) = false →
  ((((0 : Int) ≤ ((j : Nat) : Int)) ∧ (((j : Nat) : Int) < (((List.length (W.Net.fly (Prod.fst t))) : Nat) : Int))) ∧
   ((((0 : Int) ≤ ((j : Nat) : Int)) ∧ (((j : Nat) : Int) < (((List.length (W.Net.fly n)) : Nat) : Int))) ∧
   (((! (((Prod.fst (W.kAt (W.Net.fly (Prod.fst t)) j)) == (Prod.fst (W.kAt (W.Net.fly n) j))) && (((Prod.fst (Prod.snd (W.kAt (W.Net.fly (Prod.fst t)) j))) == (Prod.fst (Prod.snd (W.kAt (W.Net.fly n) j)))) && (((Prod.snd (Prod.snd (W.kAt (W.Net.fly (Prod.fst t)) j))) == (Prod.snd (Prod.snd (W.kAt (W.Net.fly n) j)))) && true)))) = true →
   (Φ Ex.ret (St.mk [(4, (AV.v (Value.bool false))), (5, (AV.sb true)), (6, (AV.ptr 6 [])), (7, (AV.i ((i : Nat) : Int))), (8, (AV.ptr 8 [])), (9, (AV.i ((j : Nat) : Int))), (10, (AV.i ((j : Nat) : Int))), (79, (AV.v (Value.bool true))), (85, (AV.v (Value.bool false))), (99, (AV.v (Value.bool true)))] [(6, (Blk.c (W.netA false false n))), (8, (Blk.c (AV.st [(W.netA false false (Prod.fst t)), (W.pkA (Prod.fst (Prod.snd t))), (AV.i (Prod.snd (Prod.snd t)))])))] [6, 8]))) ∧
   ((! (((Prod.fst (W.kAt (W.Net.fly (Prod.fst t)) j)) == (Prod.fst (W.kAt (W.Net.fly n) j))) && (((Prod.fst (Prod.snd (W.kAt (W.Net.fly (Prod.fst t)) j))) == (Prod.fst (Prod.snd (W.kAt (W.Net.fly n) j)))) && (((Prod.snd (Prod.snd (W.kAt (W.Net.fly (Prod.fst t)) j))) == (Prod.snd (Prod.snd (W.kAt (W.Net.fly n) j)))) && true)))) = false →
   ((I64 (((j + 1) : Nat) : Int)) ∧
    ((RoundQ C 133 [] K (I_ll n i t) (fun j => j ≤ t.1.fly.length) (fun j => t.1.fly.length - j) ((fun j => t.1.fly.length - j) (j)) (rest_nll_0 K Φ)) Ex.normal (St.mk [(5, (AV.sb true)), (6, (AV.ptr 6 [])), (7, (AV.i ((i : Nat) : Int))), (8, (AV.ptr 8 [])), (9, (AV.i (((j + 1) : Nat) : Int))), (10, (AV.i ((j : Nat) : Int))), (79, (AV.v (Value.bool true))), (85, (AV.v (Value.bool false))), (99, (AV.v (Value.bool false)))] [(6, (Blk.c (W.netA false false n))), (8, (Blk.c (AV.st [(W.netA false false (Prod.fst t)), (W.pkA (Prod.fst (Prod.snd t))), (AV.i (Prod.snd (Prod.snd t)))])))] [6, 8])))))))))) ∧
 ((decide (((j : Nat) : Int) < (((List.length (W.Net.fly (Prod.fst t))) : Nat) : Int))) = false →
 ((((0 : Int) ≤ ((i : Nat) : Int)) ∧ (((i : Nat) : Int) < (((List.length (W.Net.fly n)) : Nat) : Int))) ∧
  (Fun W.C W.P 17 [(W.netA false false (Prod.fst t)), (AV.i (Prod.fst (W.kAt (W.Net.fly n) i)))] [] (AV.st [(W.netA false false (W.takeN (W.toN (W.netA false false (Prod.fst t))) (Prod.fst (W.kAt (W.Net.fly n) i)))), (W.pkA (W.takeP (W.toN (W.netA false false (Prod.fst t))) (Prod.fst (W.kAt (W.Net.fly n) i)))), (AV.i (W.takeE (W.toN (W.netA false false (Prod.fst t))) (Prod.fst (W.kAt (W.Net.fly n) i))))]) [] ∧
  ((((W.takeE (W.toN (W.netA false false (Prod.fst t))) (Prod.fst (W.kAt (W.Net.fly n) i))) == (90 : Int)) = true →
  (Fun W.C W.P 21 [(W.netA false false (Prod.fst t)), (AV.i (0 : Int)), (AV.arr 2 1 (layParts (fun (x : Nat) => (AV.i (0 : Int))) [(0, (AV.i (Prod.fst (W.kAt (W.Net.fly n) i)))), (1, (AV.i (0 : Int)))]))] [] (AV.st [(W.netA false false (W.doneN (W.toN (W.netA false false (Prod.fst t))) (0 : Int) ((Prod.fst (W.kAt (W.Net.fly n) i)), (0 : Int)))), (AV.st [(AV.i (0 : Int)), (AV.i (0 : Int)), (AV.i (0 : Int))]), (AV.i (W.doneE (W.toN (W.netA false false (Prod.fst t))) (0 : Int) ((Prod.fst (W.kAt (W.Net.fly n) i)), (0 : Int))))]) [] ∧
   ((((W.doneE (W.toN (W.netA false false (Prod.fst t))) (0 : Int) ((Prod.fst (W.kAt (W.Net.fly n) i)), (0 : Int))) == (90 : Int)) = true →
   (Fun W.C W.P 21 [(W.netA false false (Prod.fst t)), (AV.i (1 : Int)), (AV.arr 2 1 (layParts (fun (x : Nat) => (AV.i (0 : Int))) [(0, (AV.i (Prod.fst (W.kAt (W.Net.fly n) i)))), (1, (AV.i (0 : Int)))]))] [] (AV.st [(W.netA false false (W.doneN (W.toN (W.netA false false (Prod.fst t))) (1 : Int) ((Prod.fst (W.kAt (W.Net.fly n) i)), (0 : Int)))), (AV.st [(AV.i (0 : Int)), (AV.i (0 : Int)), (AV.i (0 : Int))]), (AV.i (W.doneE (W.toN (W.netA false false (Prod.fst t))) (1 : Int) ((Prod.fst (W.kAt (W.Net.fly n) i)), (0 : Int))))]) [] ∧
    ((((W.doneE (W.toN (W.netA false false (Prod.fst t))) (1 : Int) ((Prod.fst (W.kAt (W.Net.fly n) i)), (0 : Int))) == (90 : Int)) = true →
    (Φ Ex.ret (St.mk [(4, (AV.sb true)), (5, (AV.sb true)), (6, (AV.ptr 6 [])), (7, (AV.i ((i : Nat) : Int))), (8, (AV.ptr 8 [])), (9, (AV.i ((j : Nat) : Int))), (11, (AV.i (Prod.fst (W.kAt (W.Net.fly n) i)))), (79, (AV.v (Value.bool false)))] [(6, (Blk.c (W.netA false false n))), (8, (Blk.c (AV.st [(W.netA false false (Prod.fst t)), (W.pkA (Prod.fst (Prod.snd t))), (AV.i (Prod.snd (Prod.snd t)))])))] [6, 8]))) ∧
    (((W.doneE (W.toN (W.netA false false (Prod.fst t))) (1 : Int) ((Prod.fst (W.kAt (W.Net.fly n) i)), (0 : Int))) == (90 : Int)) = false →
    (Φ Ex.ret (St.mk [(4, (AV.v (Value.bool false))), (5, (AV.sb true)), (6, (AV.ptr 6 [])), (7, (AV.i ((i : Nat) : Int))), (8, (AV.ptr 8 [])), (9, (AV.i ((j : Nat) : Int))), (11, (AV.i (Prod.fst (W.kAt (W.Net.fly n) i)))), (79, (AV.v (Value.bool false)))] [(6, (Blk.c (W.netA false false n))), (8, (Blk.c (AV.st [(W.netA false false (Prod.fst t)), (W.pkA (Prod.fst (Prod.snd t))), (AV.i (Prod.snd (Prod.snd t)))])))] [6, 8])))))) ∧
   (((W.doneE (W.toN (W.netA false false (Prod.fst t))) (0 : Int) ((Prod.fst (W.kAt (W.Net.fly n) i)), (0 : Int))) == (90 : Int)) = false →
   (Φ Ex.ret (St.mk [(4, (AV.v (Value.bool false))), (5, (AV.sb true)), (6, (AV.ptr 6 [])), (7, (AV.i ((i : Nat) : Int))), (8, (AV.ptr 8 [])), (9, (AV.i ((j : Nat) : Int))), (11, (AV.i (Prod.fst (W.kAt (W.Net.fly n) i)))), (79, (AV.v (Value.bool false)))] [(6, (Blk.c (W.netA false false n))), (8, (Blk.c (AV.st [(W.netA false false (Prod.fst t)), (W.pkA (Prod.fst (Prod.snd t))), (AV.i (Prod.snd (Prod.snd t)))])))] [6, 8])))))) ∧
  (((W.takeE (W.toN (W.netA false false (Prod.fst t))) (Prod.fst (W.kAt (W.Net.fly n) i))) == (90 : Int)) = false →
  (Φ Ex.ret (St.mk [(4, (AV.v (Value.bool false))), (5, (AV.sb true)), (6, (AV.ptr 6 [])), (7, (AV.i ((i : Nat) : Int))), (8, (AV.ptr 8 [])), (9, (AV.i ((j : Nat) : Int))), (11, (AV.i (Prod.fst (W.kAt (W.Net.fly n) i)))), (79, (AV.v (Value.bool false)))] [(6, (Blk.c (W.netA false false n))), (8, (Blk.c (AV.st [(W.netA false false (Prod.fst t)), (W.pkA (Prod.fst (Prod.snd t))), (AV.i (Prod.snd (Prod.snd t)))])))] [6, 8])))))))) := by kernel_rfl
theorem nll_fun (ex : Bool) (l : List Tri) (k : Nat) (hk : k < 256) : Fun C P F_nll [dTri ex l, u8 k] [] (.sb true) [] := by
  refine in_nll (W := w_nll) rfl 0 (by simp) rfl (fun id h => absurd rfl h) ?_
  refine of_eq (nll_A ex l k 0 _) ?_
  have el : tlL l = l := toTL_A l
  rw [el]
  refine ⟨sanity_fun, trivial, made_fun ex l, by simp, ?_⟩
  have hv0 := VN.made l 20
  obtain ⟨n, hn⟩ : ∃ n, n = madeN l := ⟨_, rfl⟩
  have hv : VN n := hn ▸ hv0
  rw [← hn]
  refine cut_ok (S2 := S_ll3 n k) (ent_of [(6, 6)] rfl (tm_cons rfl (sm_same rfl) (tm_cons rfl (sm_same rfl) (tm_cons rfl (sm_ptr rfl) tm_nil))) (hp_cons rfl rfl (sm_same rfl) hp_nil)) ?_
  refine of_eq (nll_C3 n k 0 _) ?_
  have e0 : toN (netD n) = n := toN_net false false n
  rw [e0]
  have hv2 := hv.2.2.2.2
  refine ⟨fun h1 => ?_, fun h1 => ?_⟩
  · have h1 : n.fly.length = 0 := by have := eq_of_beq h1; omega
    have hf : findB n k = false := hv.miss fun j hj => by omega
    refine ⟨(by first | omega | decide | (unfold I64; omega)), done_pair hv 0 _ _, fun _ => post_tmp rfl (sm_sb rfl), fun q => ?_⟩
    have : doneE n 0 ((k : Int), 0) = 90 := (find_no hf).2.1
    rw [this] at q; simp at q
  · have h1 : n.fly.length ≠ 0 := fun e => by rw [e] at h1; simp at h1
    obtain ⟨i, hi⟩ : ∃ i, i = k % n.fly.length := ⟨_, rfl⟩
    have hlt : i < n.fly.length := hi ▸ Nat.mod_lt _ (by omega)
    rw [← hi]
    refine ⟨(by first | omega | decide | (unfold I64; omega)), (by first | omega | decide | (unfold I64; omega)), (by first | omega | decide | (unfold I64; omega)), done_pair hv 0 _ _, by simp, cut_ok (S2 := S_ll7 n i (withoutN n i, (0, 0, 0), 0)) (ent_of [(6, 6), (8, 8)] rfl (tm_cons rfl (sm_same rfl) (tm_cons rfl (sm_ptr rfl) (tm_cons rfl (sm_same rfl) (tm_cons rfl (sm_ptr rfl) tm_nil)))) (hp_cons rfl rfl (sm_same rfl) (hp_cons rfl rfl (sm_eq rfl ?_) hp_nil))) ?_⟩
    · obtain ⟨q1, q2⟩ := hv.lose_at hlt
      show takA (loseN n (kAt n.fly i).1) (0, 0, 0) (loseE n (kAt n.fly i).1) = _
      rw [q1, q2]
    obtain ⟨t, ht⟩ : ∃ t : Net × Pk × Int, t = (withoutN n i, (0, 0, 0), 0) := ⟨_, rfl⟩
    have vt : VN t.1 := ht ▸ hv.erase i
    have tf : t.1.fly = n.fly.eraseIdx i := by rw [ht]; rfl
    have tl : t.1.fly.length = n.fly.length - 1 := by rw [tf, List.length_eraseIdx]; simp [hlt]
    have tc : t.1.cuts = n.cuts := by rw [ht]; rfl
    have tz : t.2.2 = 0 := by rw [ht]
    have hg : findB t.1 (kAt n.fly i).1 = false := by rw [ht]; exact hv.gone hlt
    have e1 : toN (netD t.1) = t.1 := toN_net false false _
    rw [← ht]
    refine of_eq (nll_C7 n i t 0 _) ?_
    rw [e1]
    refine ⟨fun q => (ne_no tz q).elim, fun _ => ⟨rvalid_ok vt, trivial, fun q => (nt_no (valid_ok vt) q).elim, fun _ => ⟨(by first | omega | decide | (unfold I64; omega)), fun q => (ne_no (by rw [tl]; omega) q).elim, fun _ => ⟨fun q => (ne_no (by rw [tc]) q).elim, fun _ => ?_⟩⟩⟩⟩
    refine loop_inv (W := w_nll) ctx mixed ok_nll_0 (I_ll n i t) (fun j => j ≤ t.1.fly.length) (fun j => t.1.fly.length - j) 0 (Nat.zero_le _) ?_ fun j hj => ?_
    · exact ent_of [(6, 6), (8, 8)] rfl (tm_cons rfl (sm_same rfl) (tm_cons rfl (sm_ptr rfl) (tm_cons rfl (sm_same rfl) (tm_cons rfl (sm_ptr rfl) (tm_cons rfl (sm_same rfl) tm_nil))))) (hp_cons rfl rfl (sm_same rfl) (hp_cons rfl rfl (sm_same rfl) hp_nil))
    refine of_eq (nll_L0 n i t j 0 _) ?_
    rw [e1, pk_eq, pk_eq]
    refine ⟨fun h2 => ⟨fun h3 => ?_, fun h3 => ?_⟩, fun h2 => ?_⟩
    · have h2 := of_decide_eq_true h2
      have h3 := of_decide_eq_true h3
      have ek : kAt t.1.fly j = kAt n.fly (j + 1) := by rw [tf, kAt_erase hlt (by omega), if_neg (by omega)]
      refine ⟨(by first | omega | decide | (unfold I64; omega)), (by first | omega | decide | (unfold I64; omega)), (by first | omega | decide | (unfold I64; omega)), fun q => (nt_no (decide_eq_true ek) q).elim, fun _ => ⟨(by first | omega | decide | (unfold I64; omega)), round_end (j + 1) (by omega) (ent_of [(6, 6), (8, 8)] rfl (tm_cons rfl (sm_same rfl) (tm_cons rfl (sm_ptr rfl) (tm_cons rfl (sm_same rfl) (tm_cons rfl (sm_ptr rfl) (tm_cons rfl (sm_same rfl) tm_nil))))) (hp_cons rfl rfl (sm_same rfl) (hp_cons rfl rfl (sm_same rfl) hp_nil))) (by dsimp only; omega)⟩⟩
    · have h2 := of_decide_eq_true h2
      have h3 := of_decide_eq_false h3
      have ek : kAt t.1.fly j = kAt n.fly j := by rw [tf, kAt_erase hlt (by omega), if_pos (by omega)]
      refine ⟨(by first | omega | decide | (unfold I64; omega)), (by first | omega | decide | (unfold I64; omega)), fun q => (nt_no (decide_eq_true ek) q).elim, fun _ => ⟨(by first | omega | decide | (unfold I64; omega)), round_end (j + 1) (by omega) (ent_of [(6, 6), (8, 8)] rfl (tm_cons rfl (sm_same rfl) (tm_cons rfl (sm_ptr rfl) (tm_cons rfl (sm_same rfl) (tm_cons rfl (sm_ptr rfl) (tm_cons rfl (sm_same rfl) tm_nil))))) (hp_cons rfl rfl (sm_same rfl) (hp_cons rfl rfl (sm_same rfl) hp_nil))) (by dsimp only; omega)⟩⟩
    · obtain ⟨f1, f2, f3⟩ := find_no hg
      have f2 : doneE t.1 0 ((kAt n.fly i).1, 0) = 90 := f2
      have f3 : doneE t.1 1 ((kAt n.fly i).1, 0) = 90 := f3
      rw [f1, f2, f3]
      exact ⟨(by first | omega | decide | (unfold I64; omega)), f1 ▸ taken_fun vt _, fun _ => ⟨f2 ▸ done_pair vt 0 _ _, fun _ => ⟨f3 ▸ done_pair vt 1 _ _, fun _ => post_tmp rfl (sm_sb rfl), fun q => (tf_no (by rfl) q).elim⟩, fun q => (tf_no (by rfl) q).elim⟩, fun q => (tf_no (by rfl) q).elim⟩
theorem nll_law {x0 x1 : AV} (h0 : Typed C.tt 6 22 x0) (h1 : Typed C.tt 6 5 x1) : Fun C P F_nll [x0, x1] [] (.sb true) [] := by
  obtain ⟨l, ex, _, _, s0⟩ := typed_tris h0
  obtain ⟨k, rfl, hk⟩ := typed_u8 rfl h1
  exact (nll_fun ex l k hk).sim ⟨s0, sm_same rfl, trivial⟩ trivial
end Go.Bu.W

