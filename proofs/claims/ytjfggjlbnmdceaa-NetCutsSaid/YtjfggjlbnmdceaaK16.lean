/- The fixed examples. -/
import Derived.Test.YtjfggjlbnmdceaaK15
import Derived.Test.YtjfggjlbnmdceaaK10
namespace Go.Bu.W
def crN9 (g : Nat) (args : List AV) (H : List (Nat × Blk)) : Option (AV × List (Nat × Blk)) :=
  sel (Nat.beq g F_sanity) (some (.sb true, [])) <| crN8 g args H
def wayY (keep : List Nat) (nt : Nat) (cuts : List Nat) : Way := ⟨crN9, byrefI, keep, [], nt, cuts⟩
def w_sanity : Way := wayY [0, 1, 2, 3, 4, 5, 6, 7, 23, 40, 60, 75, 108, 121] 163 [2,5,8,11,14,17]
abbrev sT (t : Net × Pk × Int) : AV := takA t.1 t.2.1 t.2.2
abbrev sS (t : Net × Int × Int) : AV := senA t.1 t.2.1 t.2.2
def S_sa2 (a : Net × Int × Int) : St := { tm := [(1, .ptr 1 [])], hp := [(1, .c (sS a))], seen := [1] }
def S_sa5 (b : Net × Int × Int) : St := { tm := [(2, .ptr 2 [])], hp := [(2, .c (sS b))], seen := [2] }
def S_sa8 (b : Net × Int × Int) (c : Net × Pk × Int) : St := { tm := [(2, .ptr 2 []), (3, .ptr 3 [])], hp := [(2, .c (sS b)), (3, .c (sT c))], seen := [2, 3] }
def S_sa11 (b : Net × Int × Int) (c h : Net × Pk × Int) : St := { tm := [(2, .ptr 2 []), (3, .ptr 3 []), (4, .ptr 4 [])], hp := [(2, .c (sS b)), (3, .c (sT c)), (4, .c (sT h))], seen := [2, 3, 4] }
def S_sa14 (b : Net × Int × Int) (c t d : Net × Pk × Int) : St := { tm := [(2, .ptr 2 []), (3, .ptr 3 []), (5, .ptr 5 []), (6, .ptr 6 [])], hp := [(2, .c (sS b)), (3, .c (sT c)), (5, .c (sT t)), (6, .c (sT d))], seen := [2, 3, 5, 6] }
def S_sa17 (b : Net × Int × Int) (c t l : Net × Pk × Int) : St := { tm := [(2, .ptr 2 []), (3, .ptr 3 []), (5, .ptr 5 []), (7, .ptr 7 [])], hp := [(2, .c (sS b)), (3, .c (sT c)), (5, .c (sT t)), (7, .c (sT l))], seen := [2, 3, 5, 7] }

theorem sanity_A  (K : Nat) (Φ : Ex → St → Prop) :
  (Holds C P 163 [] K Φ (vc C w_sanity b_sanity [] (start [] []) lf)) =
  (Fun W.C W.P 13 [(AV.st [(AV.dat 0 true 0 (fun (x : Nat) => (AV.v (Value.tuple (List.toArray []))))), (AV.dat 0 true 0 (fun (x : Nat) => (AV.v (Value.tuple (List.toArray []))))), (AV.i (1 : Int))]), (AV.i (1 : Int)), (AV.i (2 : Int))] [] (AV.st [(AV.st [(AV.dat 1 false 3 (fun (i : Nat) => (W.pkA (W.kAt [((1 : Int), ((1 : Int), (2 : Int)))] i)))), (AV.dat 0 false 2 (fun (i : Nat) => (AV.arr 2 1 (fun (j : Nat) => (AV.i (W.two (0 : Int) (0 : Int) j)))))), (AV.i (2 : Int))]), (AV.i (1 : Int)), (AV.i (0 : Int))]) [] ∧
 (((W.ShK) ∧ (((true = true) ∧ (true = true)) ∧ (((true = true) ∧ (true = true)) ∧ True))) ∧
 (∃ (S2 : St), Ent W.C 163 [] K (St.mk [(0, (AV.v (Value.bool false))), (1, (AV.ptr 1 []))] [(1, (Blk.c (AV.st [(AV.st [(AV.dat 1 false 3 (fun (i : Nat) => (W.pkA (W.kAt [((1 : Int), ((1 : Int), (2 : Int)))] i)))), (AV.dat 0 false 2 (fun (i : Nat) => (AV.arr 2 1 (fun (j : Nat) => (AV.i (W.two (0 : Int) (0 : Int) j)))))), (AV.i (2 : Int))]), (AV.i (1 : Int)), (AV.i (0 : Int))])))] [1]) S2 ∧ Holds W.C W.P 163 [] K Φ (cutAt W.C w_sanity b_sanity [1, 1, 0, 0] S2 (after W.C w_sanity b_sanity [1, 1, 0, 0] [] lf))))) := by kernel_rfl
theorem sanity_C2 (a : Net × Int × Int) (K : Nat) (Φ : Ex → St → Prop) :
  (Holds C P 163 [] K Φ (cutAt C w_sanity b_sanity [1, 1, 0, 0] (S_sa2 a) (after C w_sanity b_sanity [1, 1, 0, 0] [] lf))) =
  ((((Prod.snd (Prod.snd a)) != (0 : Int)) = true →
 (Φ Ex.ret (St.mk [(0, (AV.v (Value.bool false))), (1, (AV.ptr 1 [])), (23, (AV.v (Value.bool true)))] [(1, (Blk.c (AV.st [(W.netA false false (Prod.fst a)), (AV.i (Prod.fst (Prod.snd a))), (AV.i (Prod.snd (Prod.snd a)))])))] [1]))) ∧
 (((Prod.snd (Prod.snd a)) != (0 : Int)) = false →
 ((((Prod.fst (Prod.snd a)) != (1 : Int)) = true →
  (Φ Ex.ret (St.mk [(0, (AV.v (Value.bool false))), (1, (AV.ptr 1 [])), (23, (AV.v (Value.bool true)))] [(1, (Blk.c (AV.st [(W.netA false false (Prod.fst a)), (AV.i (Prod.fst (Prod.snd a))), (AV.i (Prod.snd (Prod.snd a)))])))] [1]))) ∧
  (((Prod.fst (Prod.snd a)) != (1 : Int)) = false →
  (Fun W.C W.P 27 [(W.netA false false (Prod.fst a))] [] (AV.sb (W.vB (W.toN (W.netA false false (Prod.fst a))))) [] ∧
   (True ∧
   (((! (W.vB (W.toN (W.netA false false (Prod.fst a))))) = true →
   (Φ Ex.ret (St.mk [(0, (AV.v (Value.bool false))), (1, (AV.ptr 1 [])), (23, (AV.v (Value.bool true)))] [(1, (Blk.c (AV.st [(W.netA false false (Prod.fst a)), (AV.i (Prod.fst (Prod.snd a))), (AV.i (Prod.snd (Prod.snd a)))])))] [1]))) ∧
   ((! (W.vB (W.toN (W.netA false false (Prod.fst a))))) = false →
   (Fun W.C W.P 13 [(W.netA false false (Prod.fst a)), (AV.i (1 : Int)), (AV.i (2 : Int))] [] (AV.st [(W.netA false false (W.sendN (W.toN (W.netA false false (Prod.fst a))) (1 : Int) (2 : Int))), (AV.i (W.sendI (W.toN (W.netA false false (Prod.fst a))) (1 : Int) (2 : Int))), (AV.i (W.sendE (W.toN (W.netA false false (Prod.fst a))) (1 : Int) (2 : Int)))]) [] ∧
    (((W.ShK) ∧ (((true = true) ∧ (true = true)) ∧ (((true = true) ∧ (true = true)) ∧ True))) ∧
    (∃ (S2 : St), Ent W.C 163 [] K (St.mk [(1, (AV.ptr 1 [])), (2, (AV.ptr 2 [])), (23, (AV.v (Value.bool false)))] [(1, (Blk.c (AV.st [(W.netA false false (Prod.fst a)), (AV.i (Prod.fst (Prod.snd a))), (AV.i (Prod.snd (Prod.snd a)))]))), (2, (Blk.c (AV.st [(W.netA false false (W.sendN (W.toN (W.netA false false (Prod.fst a))) (1 : Int) (2 : Int))), (AV.i (W.sendI (W.toN (W.netA false false (Prod.fst a))) (1 : Int) (2 : Int))), (AV.i (W.sendE (W.toN (W.netA false false (Prod.fst a))) (1 : Int) (2 : Int)))])))] [2, 1]) S2 ∧ Holds W.C W.P 163 [] K Φ (cutAt W.C w_sanity b_sanity [1, 1, 1, 1, 0, 0] S2 (after W.C w_sanity b_sanity [1, 1, 1, 1, 0, 0] [] lf))))))))))))) := by kernel_rfl
theorem sanity_C5 (b : Net × Int × Int) (K : Nat) (Φ : Ex → St → Prop) :
  (Holds C P 163 [] K Φ (cutAt C w_sanity b_sanity [1, 1, 1, 1, 0, 0] (S_sa5 b) (after C w_sanity b_sanity [1, 1, 1, 1, 0, 0] [] lf))) =
  ((((Prod.snd (Prod.snd b)) != (0 : Int)) = true →
 (Φ Ex.ret (St.mk [(0, (AV.v (Value.bool false))), (2, (AV.ptr 2 [])), (40, (AV.v (Value.bool true)))] [(2, (Blk.c (AV.st [(W.netA false false (Prod.fst b)), (AV.i (Prod.fst (Prod.snd b))), (AV.i (Prod.snd (Prod.snd b)))])))] [2]))) ∧
 (((Prod.snd (Prod.snd b)) != (0 : Int)) = false →
 ((((Prod.fst (Prod.snd b)) != (2 : Int)) = true →
  (Φ Ex.ret (St.mk [(0, (AV.v (Value.bool false))), (2, (AV.ptr 2 [])), (40, (AV.v (Value.bool true)))] [(2, (Blk.c (AV.st [(W.netA false false (Prod.fst b)), (AV.i (Prod.fst (Prod.snd b))), (AV.i (Prod.snd (Prod.snd b)))])))] [2]))) ∧
  (((Prod.fst (Prod.snd b)) != (2 : Int)) = false →
  (Fun W.C W.P 27 [(W.netA false false (Prod.fst b))] [] (AV.sb (W.vB (W.toN (W.netA false false (Prod.fst b))))) [] ∧
   (True ∧
   (((! (W.vB (W.toN (W.netA false false (Prod.fst b))))) = true →
   (Φ Ex.ret (St.mk [(0, (AV.v (Value.bool false))), (2, (AV.ptr 2 [])), (40, (AV.v (Value.bool true)))] [(2, (Blk.c (AV.st [(W.netA false false (Prod.fst b)), (AV.i (Prod.fst (Prod.snd b))), (AV.i (Prod.snd (Prod.snd b)))])))] [2]))) ∧
   ((! (W.vB (W.toN (W.netA false false (Prod.fst b))))) = false →
   (Fun W.C W.P 21 [(W.netA false false (Prod.fst b)), (AV.i (2 : Int)), (AV.arr 2 1 (layParts (fun (x : Nat) => (AV.i (0 : Int))) [(0, (AV.i (2 : Int))), (1, (AV.i (1 : Int)))]))] [] (AV.st [(W.netA false false (W.doneN (W.toN (W.netA false false (Prod.fst b))) (2 : Int) ((2 : Int), (1 : Int)))), (AV.st [(AV.i (0 : Int)), (AV.i (0 : Int)), (AV.i (0 : Int))]), (AV.i (W.doneE (W.toN (W.netA false false (Prod.fst b))) (2 : Int) ((2 : Int), (1 : Int))))]) [] ∧
    (((W.ShK) ∧ ((W.ShK) ∧ (((true = true) ∧ (true = true)) ∧ True))) ∧
    (∃ (S2 : St), Ent W.C 163 [] K (St.mk [(2, (AV.ptr 2 [])), (3, (AV.ptr 3 [])), (40, (AV.v (Value.bool false)))] [(2, (Blk.c (AV.st [(W.netA false false (Prod.fst b)), (AV.i (Prod.fst (Prod.snd b))), (AV.i (Prod.snd (Prod.snd b)))]))), (3, (Blk.c (AV.st [(W.netA false false (W.doneN (W.toN (W.netA false false (Prod.fst b))) (2 : Int) ((2 : Int), (1 : Int)))), (AV.st [(AV.i (0 : Int)), (AV.i (0 : Int)), (AV.i (0 : Int))]), (AV.i (W.doneE (W.toN (W.netA false false (Prod.fst b))) (2 : Int) ((2 : Int), (1 : Int))))])))] [3, 2]) S2 ∧ Holds W.C W.P 163 [] K Φ (cutAt W.C w_sanity b_sanity [1, 1, 1, 1, 1, 1, 0, 0] S2 (after W.C w_sanity b_sanity [1, 1, 1, 1, 1, 1, 0, 0] [] lf))))))))))))) := by kernel_rfl
theorem sanity_C8 (b : Net × Int × Int) (c : Net × Pk × Int) (K : Nat) (Φ : Ex → St → Prop) :
  (Holds C P 163 [] K Φ (cutAt C w_sanity b_sanity [1, 1, 1, 1, 1, 1, 0, 0] (S_sa8 b c) (after C w_sanity b_sanity [1, 1, 1, 1, 1, 1, 0, 0] [] lf))) =
  ((((Prod.snd (Prod.snd c)) != (0 : Int)) = true →
 (Φ Ex.ret (St.mk [(0, (AV.v (Value.bool false))), (2, (AV.ptr 2 [])), (3, (AV.ptr 3 [])), (60, (AV.v (Value.bool true)))] [(2, (Blk.c (AV.st [(W.netA false false (Prod.fst b)), (AV.i (Prod.fst (Prod.snd b))), (AV.i (Prod.snd (Prod.snd b)))]))), (3, (Blk.c (AV.st [(W.netA false false (Prod.fst c)), (W.pkA (Prod.fst (Prod.snd c))), (AV.i (Prod.snd (Prod.snd c)))])))] [2, 3]))) ∧
 (((Prod.snd (Prod.snd c)) != (0 : Int)) = false →
 (Fun W.C W.P 27 [(W.netA false false (Prod.fst c))] [] (AV.sb (W.vB (W.toN (W.netA false false (Prod.fst c))))) [] ∧
  (True ∧
  (((! (W.vB (W.toN (W.netA false false (Prod.fst c))))) = true →
  (Φ Ex.ret (St.mk [(0, (AV.v (Value.bool false))), (2, (AV.ptr 2 [])), (3, (AV.ptr 3 [])), (60, (AV.v (Value.bool true)))] [(2, (Blk.c (AV.st [(W.netA false false (Prod.fst b)), (AV.i (Prod.fst (Prod.snd b))), (AV.i (Prod.snd (Prod.snd b)))]))), (3, (Blk.c (AV.st [(W.netA false false (Prod.fst c)), (W.pkA (Prod.fst (Prod.snd c))), (AV.i (Prod.snd (Prod.snd c)))])))] [2, 3]))) ∧
  ((! (W.vB (W.toN (W.netA false false (Prod.fst c))))) = false →
  (Fun W.C W.P 17 [(W.netA false false (Prod.fst c)), (AV.i (1 : Int))] [] (AV.st [(W.netA false false (W.takeN (W.toN (W.netA false false (Prod.fst c))) (1 : Int))), (W.pkA (W.takeP (W.toN (W.netA false false (Prod.fst c))) (1 : Int))), (AV.i (W.takeE (W.toN (W.netA false false (Prod.fst c))) (1 : Int)))]) [] ∧
   ((((W.takeE (W.toN (W.netA false false (Prod.fst c))) (1 : Int)) != (320 : Int)) = true →
   (Φ Ex.ret (St.mk [(0, (AV.v (Value.bool false))), (2, (AV.ptr 2 [])), (3, (AV.ptr 3 [])), (60, (AV.v (Value.bool true)))] [(2, (Blk.c (AV.st [(W.netA false false (Prod.fst b)), (AV.i (Prod.fst (Prod.snd b))), (AV.i (Prod.snd (Prod.snd b)))]))), (3, (Blk.c (AV.st [(W.netA false false (Prod.fst c)), (W.pkA (Prod.fst (Prod.snd c))), (AV.i (Prod.snd (Prod.snd c)))])))] [2, 3]))) ∧
   (((W.takeE (W.toN (W.netA false false (Prod.fst c))) (1 : Int)) != (320 : Int)) = false →
   (Fun W.C W.P 21 [(W.netA false false (Prod.fst c)), (AV.i (3 : Int)), (AV.arr 2 1 (layParts (fun (x : Nat) => (AV.i (0 : Int))) [(0, (AV.i (1 : Int))), (1, (AV.i (2 : Int)))]))] [] (AV.st [(W.netA false false (W.doneN (W.toN (W.netA false false (Prod.fst c))) (3 : Int) ((1 : Int), (2 : Int)))), (AV.st [(AV.i (0 : Int)), (AV.i (0 : Int)), (AV.i (0 : Int))]), (AV.i (W.doneE (W.toN (W.netA false false (Prod.fst c))) (3 : Int) ((1 : Int), (2 : Int))))]) [] ∧
    (((W.ShK) ∧ ((W.ShK) ∧ (((true = true) ∧ (true = true)) ∧ True))) ∧
    (∃ (S2 : St), Ent W.C 163 [] K (St.mk [(2, (AV.ptr 2 [])), (3, (AV.ptr 3 [])), (4, (AV.ptr 4 [])), (60, (AV.v (Value.bool false)))] [(2, (Blk.c (AV.st [(W.netA false false (Prod.fst b)), (AV.i (Prod.fst (Prod.snd b))), (AV.i (Prod.snd (Prod.snd b)))]))), (3, (Blk.c (AV.st [(W.netA false false (Prod.fst c)), (W.pkA (Prod.fst (Prod.snd c))), (AV.i (Prod.snd (Prod.snd c)))]))), (4, (Blk.c (AV.st [(W.netA false false (W.doneN (W.toN (W.netA false false (Prod.fst c))) (3 : Int) ((1 : Int), (2 : Int)))), (AV.st [(AV.i (0 : Int)), (AV.i (0 : Int)), (AV.i (0 : Int))]), (AV.i (W.doneE (W.toN (W.netA false false (Prod.fst c))) (3 : Int) ((1 : Int), (2 : Int))))])))] [4, 2, 3]) S2 ∧ Holds W.C W.P 163 [] K Φ (cutAt W.C w_sanity b_sanity [1, 1, 1, 1, 1, 1, 1, 1, 0, 0] S2 (after W.C w_sanity b_sanity [1, 1, 1, 1, 1, 1, 1, 1, 0, 0] [] lf)))))))))))))) := by kernel_rfl
theorem sanity_C11 (b : Net × Int × Int) (c h : Net × Pk × Int) (K : Nat) (Φ : Ex → St → Prop) :
  (Holds C P 163 [] K Φ (cutAt C w_sanity b_sanity [1, 1, 1, 1, 1, 1, 1, 1, 0, 0] (S_sa11 b c h) (after C w_sanity b_sanity [1, 1, 1, 1, 1, 1, 1, 1, 0, 0] [] lf))) =
  ((((Prod.snd (Prod.snd h)) != (0 : Int)) = true →
 (Φ Ex.ret (St.mk [(0, (AV.v (Value.bool false))), (2, (AV.ptr 2 [])), (3, (AV.ptr 3 [])), (4, (AV.ptr 4 [])), (75, (AV.v (Value.bool true)))] [(2, (Blk.c (AV.st [(W.netA false false (Prod.fst b)), (AV.i (Prod.fst (Prod.snd b))), (AV.i (Prod.snd (Prod.snd b)))]))), (3, (Blk.c (AV.st [(W.netA false false (Prod.fst c)), (W.pkA (Prod.fst (Prod.snd c))), (AV.i (Prod.snd (Prod.snd c)))]))), (4, (Blk.c (AV.st [(W.netA false false (Prod.fst h)), (W.pkA (Prod.fst (Prod.snd h))), (AV.i (Prod.snd (Prod.snd h)))])))] [2, 3, 4]))) ∧
 (((Prod.snd (Prod.snd h)) != (0 : Int)) = false →
 (Fun W.C W.P 15 [(W.netA false false (Prod.fst h)), (W.netA false false (Prod.fst b))] [] (AV.sb (W.sameB (W.toN (W.netA false false (Prod.fst h))) (W.toN (W.netA false false (Prod.fst b))))) [] ∧
  (True ∧
  (((! (W.sameB (W.toN (W.netA false false (Prod.fst h))) (W.toN (W.netA false false (Prod.fst b))))) = true →
  (Φ Ex.ret (St.mk [(0, (AV.v (Value.bool false))), (2, (AV.ptr 2 [])), (3, (AV.ptr 3 [])), (4, (AV.ptr 4 [])), (75, (AV.v (Value.bool true)))] [(2, (Blk.c (AV.st [(W.netA false false (Prod.fst b)), (AV.i (Prod.fst (Prod.snd b))), (AV.i (Prod.snd (Prod.snd b)))]))), (3, (Blk.c (AV.st [(W.netA false false (Prod.fst c)), (W.pkA (Prod.fst (Prod.snd c))), (AV.i (Prod.snd (Prod.snd c)))]))), (4, (Blk.c (AV.st [(W.netA false false (Prod.fst h)), (W.pkA (Prod.fst (Prod.snd h))), (AV.i (Prod.snd (Prod.snd h)))])))] [2, 3, 4]))) ∧
  ((! (W.sameB (W.toN (W.netA false false (Prod.fst h))) (W.toN (W.netA false false (Prod.fst b))))) = false →
  (Fun W.C W.P 17 [(W.netA false false (Prod.fst b)), (AV.i (1 : Int))] [] (AV.st [(W.netA false false (W.takeN (W.toN (W.netA false false (Prod.fst b))) (1 : Int))), (W.pkA (W.takeP (W.toN (W.netA false false (Prod.fst b))) (1 : Int))), (AV.i (W.takeE (W.toN (W.netA false false (Prod.fst b))) (1 : Int)))]) [] ∧
   (Fun W.C W.P 21 [(W.netA false false (Prod.fst b)), (AV.i (1 : Int)), (AV.arr 2 1 (layParts (fun (x : Nat) => (AV.i (0 : Int))) [(0, (AV.i (2 : Int))), (1, (AV.i (0 : Int)))]))] [] (AV.st [(W.netA false false (W.doneN (W.toN (W.netA false false (Prod.fst b))) (1 : Int) ((2 : Int), (0 : Int)))), (AV.st [(AV.i (0 : Int)), (AV.i (0 : Int)), (AV.i (0 : Int))]), (AV.i (W.doneE (W.toN (W.netA false false (Prod.fst b))) (1 : Int) ((2 : Int), (0 : Int))))]) [] ∧
   (((W.ShK) ∧ ((W.ShK) ∧ (((true = true) ∧ (true = true)) ∧ True))) ∧
   (((W.ShK) ∧ ((W.ShK) ∧ (((true = true) ∧ (true = true)) ∧ True))) ∧
   (∃ (S2 : St), Ent W.C 163 [] K (St.mk [(2, (AV.ptr 2 [])), (3, (AV.ptr 3 [])), (4, (AV.ptr 4 [])), (5, (AV.ptr 5 [])), (6, (AV.ptr 6 [])), (75, (AV.v (Value.bool false)))] [(2, (Blk.c (AV.st [(W.netA false false (Prod.fst b)), (AV.i (Prod.fst (Prod.snd b))), (AV.i (Prod.snd (Prod.snd b)))]))), (3, (Blk.c (AV.st [(W.netA false false (Prod.fst c)), (W.pkA (Prod.fst (Prod.snd c))), (AV.i (Prod.snd (Prod.snd c)))]))), (4, (Blk.c (AV.st [(W.netA false false (Prod.fst h)), (W.pkA (Prod.fst (Prod.snd h))), (AV.i (Prod.snd (Prod.snd h)))]))), (5, (Blk.c (AV.st [(W.netA false false (W.takeN (W.toN (W.netA false false (Prod.fst b))) (1 : Int))), (W.pkA (W.takeP (W.toN (W.netA false false (Prod.fst b))) (1 : Int))), (AV.i (W.takeE (W.toN (W.netA false false (Prod.fst b))) (1 : Int)))]))), (6, (Blk.c (AV.st [(W.netA false false (W.doneN (W.toN (W.netA false false (Prod.fst b))) (1 : Int) ((2 : Int), (0 : Int)))), (AV.st [(AV.i (0 : Int)), (AV.i (0 : Int)), (AV.i (0 : Int))]), (AV.i (W.doneE (W.toN (W.netA false false (Prod.fst b))) (1 : Int) ((2 : Int), (0 : Int))))])))] [6, 5, 2, 3, 4]) S2 ∧ Holds W.C W.P 163 [] K Φ (cutAt W.C w_sanity b_sanity [1, 1, 1, 1, 1, 1, 1, 1, 1, 1, 0, 0] S2 (after W.C w_sanity b_sanity [1, 1, 1, 1, 1, 1, 1, 1, 1, 1, 0, 0] [] lf))))))))))))) := by kernel_rfl
theorem sanity_C14 (b : Net × Int × Int) (c t d : Net × Pk × Int) (K : Nat) (Φ : Ex → St → Prop) :
  (Holds C P 163 [] K Φ (cutAt C w_sanity b_sanity [1, 1, 1, 1, 1, 1, 1, 1, 1, 1, 0, 0] (S_sa14 b c t d) (after C w_sanity b_sanity [1, 1, 1, 1, 1, 1, 1, 1, 1, 1, 0, 0] [] lf))) =
  ((((Prod.snd (Prod.snd t)) != (0 : Int)) = true →
 (Φ Ex.ret (St.mk [(0, (AV.v (Value.bool false))), (2, (AV.ptr 2 [])), (3, (AV.ptr 3 [])), (5, (AV.ptr 5 [])), (6, (AV.ptr 6 [])), (108, (AV.v (Value.bool true)))] [(2, (Blk.c (AV.st [(W.netA false false (Prod.fst b)), (AV.i (Prod.fst (Prod.snd b))), (AV.i (Prod.snd (Prod.snd b)))]))), (3, (Blk.c (AV.st [(W.netA false false (Prod.fst c)), (W.pkA (Prod.fst (Prod.snd c))), (AV.i (Prod.snd (Prod.snd c)))]))), (5, (Blk.c (AV.st [(W.netA false false (Prod.fst t)), (W.pkA (Prod.fst (Prod.snd t))), (AV.i (Prod.snd (Prod.snd t)))]))), (6, (Blk.c (AV.st [(W.netA false false (Prod.fst d)), (W.pkA (Prod.fst (Prod.snd d))), (AV.i (Prod.snd (Prod.snd d)))])))] [2, 3, 5, 6]))) ∧
 (((Prod.snd (Prod.snd t)) != (0 : Int)) = false →
 (((! (((Prod.fst (Prod.fst (Prod.snd t))) == (1 : Int)) && (((Prod.fst (Prod.snd (Prod.fst (Prod.snd t)))) == (1 : Int)) && (((Prod.snd (Prod.snd (Prod.fst (Prod.snd t)))) == (2 : Int)) && true)))) = true →
  (Φ Ex.ret (St.mk [(0, (AV.v (Value.bool false))), (2, (AV.ptr 2 [])), (3, (AV.ptr 3 [])), (5, (AV.ptr 5 [])), (6, (AV.ptr 6 [])), (108, (AV.v (Value.bool true)))] [(2, (Blk.c (AV.st [(W.netA false false (Prod.fst b)), (AV.i (Prod.fst (Prod.snd b))), (AV.i (Prod.snd (Prod.snd b)))]))), (3, (Blk.c (AV.st [(W.netA false false (Prod.fst c)), (W.pkA (Prod.fst (Prod.snd c))), (AV.i (Prod.snd (Prod.snd c)))]))), (5, (Blk.c (AV.st [(W.netA false false (Prod.fst t)), (W.pkA (Prod.fst (Prod.snd t))), (AV.i (Prod.snd (Prod.snd t)))]))), (6, (Blk.c (AV.st [(W.netA false false (Prod.fst d)), (W.pkA (Prod.fst (Prod.snd d))), (AV.i (Prod.snd (Prod.snd d)))])))] [2, 3, 5, 6]))) ∧
  ((! (((Prod.fst (Prod.fst (Prod.snd t))) == (1 : Int)) && (((Prod.fst (Prod.snd (Prod.fst (Prod.snd t)))) == (1 : Int)) && (((Prod.snd (Prod.snd (Prod.fst (Prod.snd t)))) == (2 : Int)) && true)))) = false →
  (Fun W.C W.P 27 [(W.netA false false (Prod.fst t))] [] (AV.sb (W.vB (W.toN (W.netA false false (Prod.fst t))))) [] ∧
   (True ∧
   (((! (W.vB (W.toN (W.netA false false (Prod.fst t))))) = true →
   (Φ Ex.ret (St.mk [(0, (AV.v (Value.bool false))), (2, (AV.ptr 2 [])), (3, (AV.ptr 3 [])), (5, (AV.ptr 5 [])), (6, (AV.ptr 6 [])), (108, (AV.v (Value.bool true)))] [(2, (Blk.c (AV.st [(W.netA false false (Prod.fst b)), (AV.i (Prod.fst (Prod.snd b))), (AV.i (Prod.snd (Prod.snd b)))]))), (3, (Blk.c (AV.st [(W.netA false false (Prod.fst c)), (W.pkA (Prod.fst (Prod.snd c))), (AV.i (Prod.snd (Prod.snd c)))]))), (5, (Blk.c (AV.st [(W.netA false false (Prod.fst t)), (W.pkA (Prod.fst (Prod.snd t))), (AV.i (Prod.snd (Prod.snd t)))]))), (6, (Blk.c (AV.st [(W.netA false false (Prod.fst d)), (W.pkA (Prod.fst (Prod.snd d))), (AV.i (Prod.snd (Prod.snd d)))])))] [2, 3, 5, 6]))) ∧
   ((! (W.vB (W.toN (W.netA false false (Prod.fst t))))) = false →
   ((((Prod.snd (Prod.snd d)) != (0 : Int)) = true →
    (Φ Ex.ret (St.mk [(0, (AV.v (Value.bool false))), (2, (AV.ptr 2 [])), (3, (AV.ptr 3 [])), (5, (AV.ptr 5 [])), (6, (AV.ptr 6 [])), (108, (AV.v (Value.bool true)))] [(2, (Blk.c (AV.st [(W.netA false false (Prod.fst b)), (AV.i (Prod.fst (Prod.snd b))), (AV.i (Prod.snd (Prod.snd b)))]))), (3, (Blk.c (AV.st [(W.netA false false (Prod.fst c)), (W.pkA (Prod.fst (Prod.snd c))), (AV.i (Prod.snd (Prod.snd c)))]))), (5, (Blk.c (AV.st [(W.netA false false (Prod.fst t)), (W.pkA (Prod.fst (Prod.snd t))), (AV.i (Prod.snd (Prod.snd t)))]))), (6, (Blk.c (AV.st [(W.netA false false (Prod.fst d)), (W.pkA (Prod.fst (Prod.snd d))), (AV.i (Prod.snd (Prod.snd d)))])))] [2, 3, 5, 6]))) ∧
    (((Prod.snd (Prod.snd d)) != (0 : Int)) = false →
    (Fun W.C W.P 27 [(W.netA false false (Prod.fst d))] [] (AV.sb (W.vB (W.toN (W.netA false false (Prod.fst d))))) [] ∧
     (True ∧
     (((! (W.vB (W.toN (W.netA false false (Prod.fst d))))) = true →
     (Φ Ex.ret (St.mk [(0, (AV.v (Value.bool false))), (2, (AV.ptr 2 [])), (3, (AV.ptr 3 [])), (5, (AV.ptr 5 [])), (6, (AV.ptr 6 [])), (108, (AV.v (Value.bool true)))] [(2, (Blk.c (AV.st [(W.netA false false (Prod.fst b)), (AV.i (Prod.fst (Prod.snd b))), (AV.i (Prod.snd (Prod.snd b)))]))), (3, (Blk.c (AV.st [(W.netA false false (Prod.fst c)), (W.pkA (Prod.fst (Prod.snd c))), (AV.i (Prod.snd (Prod.snd c)))]))), (5, (Blk.c (AV.st [(W.netA false false (Prod.fst t)), (W.pkA (Prod.fst (Prod.snd t))), (AV.i (Prod.snd (Prod.snd t)))]))), (6, (Blk.c (AV.st [(W.netA false false (Prod.fst d)), (W.pkA (Prod.fst (Prod.snd d))), (AV.i (Prod.snd (Prod.snd d)))])))] [2, 3, 5, 6]))) ∧
     ((! (W.vB (W.toN (W.netA false false (Prod.fst d))))) = false →
     (Fun W.C W.P 21 [(W.netA false false (Prod.fst d)), (AV.i (0 : Int)), (AV.arr 2 1 (layParts (fun (x : Nat) => (AV.i (0 : Int))) [(0, (AV.i (2 : Int))), (1, (AV.i (0 : Int)))]))] [] (AV.st [(W.netA false false (W.doneN (W.toN (W.netA false false (Prod.fst d))) (0 : Int) ((2 : Int), (0 : Int)))), (AV.st [(AV.i (0 : Int)), (AV.i (0 : Int)), (AV.i (0 : Int))]), (AV.i (W.doneE (W.toN (W.netA false false (Prod.fst d))) (0 : Int) ((2 : Int), (0 : Int))))]) [] ∧
      (((W.ShK) ∧ ((W.ShK) ∧ (((true = true) ∧ (true = true)) ∧ True))) ∧
      (∃ (S2 : St), Ent W.C 163 [] K (St.mk [(2, (AV.ptr 2 [])), (3, (AV.ptr 3 [])), (5, (AV.ptr 5 [])), (6, (AV.ptr 6 [])), (7, (AV.ptr 7 [])), (108, (AV.v (Value.bool false)))] [(2, (Blk.c (AV.st [(W.netA false false (Prod.fst b)), (AV.i (Prod.fst (Prod.snd b))), (AV.i (Prod.snd (Prod.snd b)))]))), (3, (Blk.c (AV.st [(W.netA false false (Prod.fst c)), (W.pkA (Prod.fst (Prod.snd c))), (AV.i (Prod.snd (Prod.snd c)))]))), (5, (Blk.c (AV.st [(W.netA false false (Prod.fst t)), (W.pkA (Prod.fst (Prod.snd t))), (AV.i (Prod.snd (Prod.snd t)))]))), (6, (Blk.c (AV.st [(W.netA false false (Prod.fst d)), (W.pkA (Prod.fst (Prod.snd d))), (AV.i (Prod.snd (Prod.snd d)))]))), (7, (Blk.c (AV.st [(W.netA false false (W.doneN (W.toN (W.netA false false (Prod.fst d))) (0 : Int) ((2 : Int), (0 : Int)))), (AV.st [(AV.i (0 : Int)), (AV.i (0 : Int)), (AV.i (0 : Int))]), (AV.i (W.doneE (W.toN (W.netA false false (Prod.fst d))) (0 : Int) ((2 : Int), (0 : Int))))])))] [7, 2, 3, 5, 6]) S2 ∧ Holds W.C W.P 163 [] K Φ (cutAt W.C w_sanity b_sanity [1, 1, 1, 1, 1, 1, 1, 1, 1, 1, 1, 1, 0, 0] S2 (after W.C w_sanity b_sanity [1, 1, 1, 1, 1, 1, 1, 1, 1, 1, 1, 1, 0, 0] [] lf))))))))))))))))))) := by kernel_rfl
theorem sanity_C17 (b : Net × Int × Int) (c t l : Net × Pk × Int) (K : Nat) (Φ : Ex → St → Prop) :
  (Holds C P 163 [] K Φ (cutAt C w_sanity b_sanity [1, 1, 1, 1, 1, 1, 1, 1, 1, 1, 1, 1, 0, 0] (S_sa17 b c t l) (after C w_sanity b_sanity [1, 1, 1, 1, 1, 1, 1, 1, 1, 1, 1, 1, 0, 0] [] lf))) =
  ((((Prod.snd (Prod.snd l)) != (0 : Int)) = true →
 (Φ Ex.ret (St.mk [(0, (AV.v (Value.bool false))), (2, (AV.ptr 2 [])), (3, (AV.ptr 3 [])), (5, (AV.ptr 5 [])), (7, (AV.ptr 7 [])), (121, (AV.v (Value.bool true)))] [(2, (Blk.c (AV.st [(W.netA false false (Prod.fst b)), (AV.i (Prod.fst (Prod.snd b))), (AV.i (Prod.snd (Prod.snd b)))]))), (3, (Blk.c (AV.st [(W.netA false false (Prod.fst c)), (W.pkA (Prod.fst (Prod.snd c))), (AV.i (Prod.snd (Prod.snd c)))]))), (5, (Blk.c (AV.st [(W.netA false false (Prod.fst t)), (W.pkA (Prod.fst (Prod.snd t))), (AV.i (Prod.snd (Prod.snd t)))]))), (7, (Blk.c (AV.st [(W.netA false false (Prod.fst l)), (W.pkA (Prod.fst (Prod.snd l))), (AV.i (Prod.snd (Prod.snd l)))])))] [2, 3, 5, 7]))) ∧
 (((Prod.snd (Prod.snd l)) != (0 : Int)) = false →
 (Fun W.C W.P 27 [(W.netA false false (Prod.fst l))] [] (AV.sb (W.vB (W.toN (W.netA false false (Prod.fst l))))) [] ∧
  (True ∧
  (((! (W.vB (W.toN (W.netA false false (Prod.fst l))))) = true →
  (Φ Ex.ret (St.mk [(0, (AV.v (Value.bool false))), (2, (AV.ptr 2 [])), (3, (AV.ptr 3 [])), (5, (AV.ptr 5 [])), (7, (AV.ptr 7 [])), (121, (AV.v (Value.bool true)))] [(2, (Blk.c (AV.st [(W.netA false false (Prod.fst b)), (AV.i (Prod.fst (Prod.snd b))), (AV.i (Prod.snd (Prod.snd b)))]))), (3, (Blk.c (AV.st [(W.netA false false (Prod.fst c)), (W.pkA (Prod.fst (Prod.snd c))), (AV.i (Prod.snd (Prod.snd c)))]))), (5, (Blk.c (AV.st [(W.netA false false (Prod.fst t)), (W.pkA (Prod.fst (Prod.snd t))), (AV.i (Prod.snd (Prod.snd t)))]))), (7, (Blk.c (AV.st [(W.netA false false (Prod.fst l)), (W.pkA (Prod.fst (Prod.snd l))), (AV.i (Prod.snd (Prod.snd l)))])))] [2, 3, 5, 7]))) ∧
  ((! (W.vB (W.toN (W.netA false false (Prod.fst l))))) = false →
  (Fun W.C W.P 17 [(W.netA false false (Prod.fst t)), (AV.i (1 : Int))] [] (AV.st [(W.netA false false (W.takeN (W.toN (W.netA false false (Prod.fst t))) (1 : Int))), (W.pkA (W.takeP (W.toN (W.netA false false (Prod.fst t))) (1 : Int))), (AV.i (W.takeE (W.toN (W.netA false false (Prod.fst t))) (1 : Int)))]) [] ∧
   ((((W.takeE (W.toN (W.netA false false (Prod.fst t))) (1 : Int)) == (90 : Int)) = true →
   (Fun W.C W.P 17 [(W.netA false false (Prod.fst l)), (AV.i (3 : Int))] [] (AV.st [(W.netA false false (W.takeN (W.toN (W.netA false false (Prod.fst l))) (3 : Int))), (W.pkA (W.takeP (W.toN (W.netA false false (Prod.fst l))) (3 : Int))), (AV.i (W.takeE (W.toN (W.netA false false (Prod.fst l))) (3 : Int)))]) [] ∧
    (((((Prod.fst (W.takeP (W.toN (W.netA false false (Prod.fst l))) (3 : Int))) == (3 : Int)) && (((Prod.fst (Prod.snd (W.takeP (W.toN (W.netA false false (Prod.fst l))) (3 : Int)))) == (1 : Int)) && (((Prod.snd (Prod.snd (W.takeP (W.toN (W.netA false false (Prod.fst l))) (3 : Int)))) == (2 : Int)) && true))) = true →
    (Fun W.C W.P 13 [(W.netA false false (Prod.fst b)), (AV.i (1 : Int)), (AV.i (1 : Int))] [] (AV.st [(W.netA false false (W.sendN (W.toN (W.netA false false (Prod.fst b))) (1 : Int) (1 : Int))), (AV.i (W.sendI (W.toN (W.netA false false (Prod.fst b))) (1 : Int) (1 : Int))), (AV.i (W.sendE (W.toN (W.netA false false (Prod.fst b))) (1 : Int) (1 : Int)))]) [] ∧
     ((((W.sendE (W.toN (W.netA false false (Prod.fst b))) (1 : Int) (1 : Int)) == (1 : Int)) = true →
     (Fun W.C W.P 19 [(W.netA false false (Prod.fst c)), (AV.i (1 : Int)), (AV.i (2 : Int))] [] (AV.sb (W.reachN (W.toN (W.netA false false (Prod.fst c))) (1 : Int) (2 : Int))) [] ∧
      (True ∧
      (((! (W.reachN (W.toN (W.netA false false (Prod.fst c))) (1 : Int) (2 : Int))) = true →
      (Fun W.C W.P 19 [(W.netA false false (Prod.fst c)), (AV.i (1 : Int)), (AV.i (3 : Int))] [] (AV.sb (W.reachN (W.toN (W.netA false false (Prod.fst c))) (1 : Int) (3 : Int))) [] ∧
       (True ∧
       (((W.reachN (W.toN (W.netA false false (Prod.fst c))) (1 : Int) (3 : Int)) = true →
       (Fun W.C W.P 26 [(W.netA false false (Prod.fst b))] [] (AV.sb (W.vB (W.toN (W.netA false false (Prod.fst b))))) [] ∧
        (True ∧
        (((W.vB (W.toN (W.netA false false (Prod.fst b)))) = true →
        (Fun W.C W.P 26 [(AV.st [(AV.dat 0 true 0 (fun (x : Nat) => (AV.v (Value.tuple (List.toArray []))))), (AV.dat 0 true 0 (fun (x : Nat) => (AV.v (Value.tuple (List.toArray []))))), (AV.i (0 : Int))])] [] (AV.sb false) [] ∧
         (True ∧
         (Φ Ex.ret (St.mk [(0, (AV.sb true)), (2, (AV.ptr 2 [])), (3, (AV.ptr 3 [])), (5, (AV.ptr 5 [])), (7, (AV.ptr 7 [])), (121, (AV.v (Value.bool false)))] [(2, (Blk.c (AV.st [(W.netA false false (Prod.fst b)), (AV.i (Prod.fst (Prod.snd b))), (AV.i (Prod.snd (Prod.snd b)))]))), (3, (Blk.c (AV.st [(W.netA false false (Prod.fst c)), (W.pkA (Prod.fst (Prod.snd c))), (AV.i (Prod.snd (Prod.snd c)))]))), (5, (Blk.c (AV.st [(W.netA false false (Prod.fst t)), (W.pkA (Prod.fst (Prod.snd t))), (AV.i (Prod.snd (Prod.snd t)))]))), (7, (Blk.c (AV.st [(W.netA false false (Prod.fst l)), (W.pkA (Prod.fst (Prod.snd l))), (AV.i (Prod.snd (Prod.snd l)))])))] [2, 3, 5, 7]))))) ∧
        ((W.vB (W.toN (W.netA false false (Prod.fst b)))) = false →
        (Φ Ex.ret (St.mk [(0, (AV.v (Value.bool false))), (2, (AV.ptr 2 [])), (3, (AV.ptr 3 [])), (5, (AV.ptr 5 [])), (7, (AV.ptr 7 [])), (121, (AV.v (Value.bool false)))] [(2, (Blk.c (AV.st [(W.netA false false (Prod.fst b)), (AV.i (Prod.fst (Prod.snd b))), (AV.i (Prod.snd (Prod.snd b)))]))), (3, (Blk.c (AV.st [(W.netA false false (Prod.fst c)), (W.pkA (Prod.fst (Prod.snd c))), (AV.i (Prod.snd (Prod.snd c)))]))), (5, (Blk.c (AV.st [(W.netA false false (Prod.fst t)), (W.pkA (Prod.fst (Prod.snd t))), (AV.i (Prod.snd (Prod.snd t)))]))), (7, (Blk.c (AV.st [(W.netA false false (Prod.fst l)), (W.pkA (Prod.fst (Prod.snd l))), (AV.i (Prod.snd (Prod.snd l)))])))] [2, 3, 5, 7]))))))) ∧
       ((W.reachN (W.toN (W.netA false false (Prod.fst c))) (1 : Int) (3 : Int)) = false →
       (Φ Ex.ret (St.mk [(0, (AV.v (Value.bool false))), (2, (AV.ptr 2 [])), (3, (AV.ptr 3 [])), (5, (AV.ptr 5 [])), (7, (AV.ptr 7 [])), (121, (AV.v (Value.bool false)))] [(2, (Blk.c (AV.st [(W.netA false false (Prod.fst b)), (AV.i (Prod.fst (Prod.snd b))), (AV.i (Prod.snd (Prod.snd b)))]))), (3, (Blk.c (AV.st [(W.netA false false (Prod.fst c)), (W.pkA (Prod.fst (Prod.snd c))), (AV.i (Prod.snd (Prod.snd c)))]))), (5, (Blk.c (AV.st [(W.netA false false (Prod.fst t)), (W.pkA (Prod.fst (Prod.snd t))), (AV.i (Prod.snd (Prod.snd t)))]))), (7, (Blk.c (AV.st [(W.netA false false (Prod.fst l)), (W.pkA (Prod.fst (Prod.snd l))), (AV.i (Prod.snd (Prod.snd l)))])))] [2, 3, 5, 7]))))))) ∧
      ((! (W.reachN (W.toN (W.netA false false (Prod.fst c))) (1 : Int) (2 : Int))) = false →
      (Φ Ex.ret (St.mk [(0, (AV.v (Value.bool false))), (2, (AV.ptr 2 [])), (3, (AV.ptr 3 [])), (5, (AV.ptr 5 [])), (7, (AV.ptr 7 [])), (121, (AV.v (Value.bool false)))] [(2, (Blk.c (AV.st [(W.netA false false (Prod.fst b)), (AV.i (Prod.fst (Prod.snd b))), (AV.i (Prod.snd (Prod.snd b)))]))), (3, (Blk.c (AV.st [(W.netA false false (Prod.fst c)), (W.pkA (Prod.fst (Prod.snd c))), (AV.i (Prod.snd (Prod.snd c)))]))), (5, (Blk.c (AV.st [(W.netA false false (Prod.fst t)), (W.pkA (Prod.fst (Prod.snd t))), (AV.i (Prod.snd (Prod.snd t)))]))), (7, (Blk.c (AV.st [(W.netA false false (Prod.fst l)), (W.pkA (Prod.fst (Prod.snd l))), (AV.i (Prod.snd (Prod.snd l)))])))] [2, 3, 5, 7]))))))) ∧
     (((W.sendE (W.toN (W.netA false false (Prod.fst b))) (1 : Int) (1 : Int)) == (1 : Int)) = false →
     (Φ Ex.ret (St.mk [(0, (AV.v (Value.bool false))), (2, (AV.ptr 2 [])), (3, (AV.ptr 3 [])), (5, (AV.ptr 5 [])), (7, (AV.ptr 7 [])), (121, (AV.v (Value.bool false)))] [(2, (Blk.c (AV.st [(W.netA false false (Prod.fst b)), (AV.i (Prod.fst (Prod.snd b))), (AV.i (Prod.snd (Prod.snd b)))]))), (3, (Blk.c (AV.st [(W.netA false false (Prod.fst c)), (W.pkA (Prod.fst (Prod.snd c))), (AV.i (Prod.snd (Prod.snd c)))]))), (5, (Blk.c (AV.st [(W.netA false false (Prod.fst t)), (W.pkA (Prod.fst (Prod.snd t))), (AV.i (Prod.snd (Prod.snd t)))]))), (7, (Blk.c (AV.st [(W.netA false false (Prod.fst l)), (W.pkA (Prod.fst (Prod.snd l))), (AV.i (Prod.snd (Prod.snd l)))])))] [2, 3, 5, 7])))))) ∧
    ((((Prod.fst (W.takeP (W.toN (W.netA false false (Prod.fst l))) (3 : Int))) == (3 : Int)) && (((Prod.fst (Prod.snd (W.takeP (W.toN (W.netA false false (Prod.fst l))) (3 : Int)))) == (1 : Int)) && (((Prod.snd (Prod.snd (W.takeP (W.toN (W.netA false false (Prod.fst l))) (3 : Int)))) == (2 : Int)) && true))) = false →
    (Φ Ex.ret (St.mk [(0, (AV.v (Value.bool false))), (2, (AV.ptr 2 [])), (3, (AV.ptr 3 [])), (5, (AV.ptr 5 [])), (7, (AV.ptr 7 [])), (121, (AV.v (Value.bool false)))] [(2, (Blk.c (AV.st [(W.netA false false (Prod.fst b)), (AV.i (Prod.fst (Prod.snd b))), (AV.i (Prod.snd (Prod.snd b)))]))), (3, (Blk.c (AV.st [(W.netA false false (Prod.fst c)), (W.pkA (Prod.fst (Prod.snd c))), (AV.i (Prod.snd (Prod.snd c)))]))), (5, (Blk.c (AV.st [(W.netA false false (Prod.fst t)), (W.pkA (Prod.fst (Prod.snd t))), (AV.i (Prod.snd (Prod.snd t)))]))), (7, (Blk.c (AV.st [(W.netA false false (Prod.fst l)), (W.pkA (Prod.fst (Prod.snd l))), (AV.i (Prod.snd (Prod.snd l)))])))] [2, 3, 5, 7])))))) ∧
   (((W.takeE (W.toN (W.netA false false (Prod.fst t))) (1 : Int)) == (90 : Int)) = false →
   (Φ Ex.ret (St.mk [(0, (AV.v (Value.bool false))), (2, (AV.ptr 2 [])), (3, (AV.ptr 3 [])), (5, (AV.ptr 5 [])), (7, (AV.ptr 7 [])), (121, (AV.v (Value.bool false)))] [(2, (Blk.c (AV.st [(W.netA false false (Prod.fst b)), (AV.i (Prod.fst (Prod.snd b))), (AV.i (Prod.snd (Prod.snd b)))]))), (3, (Blk.c (AV.st [(W.netA false false (Prod.fst c)), (W.pkA (Prod.fst (Prod.snd c))), (AV.i (Prod.snd (Prod.snd c)))]))), (5, (Blk.c (AV.st [(W.netA false false (Prod.fst t)), (W.pkA (Prod.fst (Prod.snd t))), (AV.i (Prod.snd (Prod.snd t)))]))), (7, (Blk.c (AV.st [(W.netA false false (Prod.fst l)), (W.pkA (Prod.fst (Prod.snd l))), (AV.i (Prod.snd (Prod.snd l)))])))] [2, 3, 5, 7]))))))))))) := by kernel_rfl
theorem ne_no {a : Int} {b : Int} (h : a = b) (h2 : (a != b) = true) : False := by rw [h] at h2; simp at h2
theorem nt_no {b : Bool} (h : b = true) (h2 : (!b) = true) : False := by rw [h] at h2; cases h2
theorem tf_no {b : Bool} (h : b = true) (h2 : b = false) : False := by rw [h] at h2; cases h2
theorem VN.lens {n : Net} (h : VN n) : n.fly.length < 2 ^ 40 ∧ n.cuts.length < 2 ^ 40 := by obtain ⟨_, _, _, _, h5, h6, _⟩ := h; omega
theorem rvalid_ok {n : Net} (h : VN n) : Fun C P F_rvalid [netD n] [] (.sb (vB n)) [] := rvalid_fun n h.lens.1 h.lens.2
theorem valid_ok_fun {n : Net} (h : VN n) : Fun C P F_valid [netD n] [] (.sb (vB n)) [] := valid_fun n h.lens.1 h.lens.2
theorem same_ok {a b : Net} (h : VN a) : Fun C P F_same [netD a, netD b] [] (.sb (sameB a b)) [] := same_fun a b h.lens.1 h.lens.2
theorem done_pair {n : Net} (h : VN n) (q a b : Int) : Fun C P F_done [netD n, .i q, .arr 2 1 (layParts (fun _ => .i 0) [(0, .i a), (1, .i b)])] [] (takA (doneN n q (a, b)) (0, 0, 0) (doneE n q (a, b))) [] :=
  (done_fun h q (a, b)).sim ⟨sm_same rfl, sm_same rfl, sm_arr (fun i hi => by match i, hi with | 0, _ => rfl | 1, _ => rfl), trivial⟩ trivial
def sA : Net × Int × Int := (sendN net0 1 2, sendI net0 1 2, sendE net0 1 2)
def sB : Net × Int × Int := (sendN sA.1 1 2, sendI sA.1 1 2, sendE sA.1 1 2)
def sC : Net × Pk × Int := (doneN sB.1 2 (2, 1), (0, 0, 0), doneE sB.1 2 (2, 1))
def sH : Net × Pk × Int := (doneN sC.1 3 (1, 2), (0, 0, 0), doneE sC.1 3 (1, 2))
def sTk : Net × Pk × Int := (takeN sB.1 1, takeP sB.1 1, takeE sB.1 1)
def sDb : Net × Pk × Int := (doneN sB.1 1 (2, 0), (0, 0, 0), doneE sB.1 1 (2, 0))
def sLo : Net × Pk × Int := (doneN sDb.1 0 (2, 0), (0, 0, 0), doneE sDb.1 0 (2, 0))
theorem vnA : VN sA.1 := VN.send (.zero 1 (by decide) (by decide)) 1 2
theorem vnB : VN sB.1 := vnA.send 1 2
theorem vnC : VN sC.1 := vnB.done 2 (2, 1)
theorem vnH : VN sH.1 := vnC.done 3 (1, 2)
theorem vnT : VN sTk.1 := vnB.take 1
theorem vnD : VN sDb.1 := vnB.done 1 (2, 0)
theorem vnL : VN sLo.1 := vnD.done 0 (2, 0)
theorem sent_zero (k a b : Int) (h1 : 1 ≤ k) (h2 : k ≤ 1000000000) (f g : Nat → AV) : Fun C P F_sent [.st [.dat 0 true 0 f, .dat 0 true 0 g, .i k], .i a, .i b] [] (senA (sendN ⟨[], [], k⟩ a b) (sendI ⟨[], [], k⟩ a b) (sendE ⟨[], [], k⟩ a b)) [] :=
  (sent_fun (VN.zero k h1 h2) a b).sim ⟨sm_st ⟨.inr ⟨rfl, by simp, .inl rfl, fun i hi => absurd hi (Nat.not_lt_zero i)⟩, .inr ⟨rfl, by simp, .inl rfl, fun i hi => absurd hi (Nat.not_lt_zero i)⟩, sm_int rfl, trivial⟩, sm_same rfl, sm_same rfl, trivial⟩ trivial
theorem sanity_fun : Fun C P F_sanity [] [] (.sb true) [] := by
  refine in_sanity (W := w_sanity) rfl 0 (by simp) rfl (fun id h => absurd rfl h) ?_
  refine of_eq (sanity_A 0 _) ⟨sent_zero 1 1 2 (by decide) (by decide) _ _, by simp, cut_ok (S2 := S_sa2 sA) (ent_of [(1, 1)] rfl (tm_cons rfl (sm_ptr rfl) tm_nil) (hp_cons rfl rfl (sm_same rfl) hp_nil)) ?_⟩
  obtain ⟨a, ha⟩ : ∃ a, a = sA := ⟨_, rfl⟩
  rw [← ha]
  refine of_eq (sanity_C2 a 0 _) ?_
  have va : VN a.1 := ha ▸ vnA
  have e0 : toN (netD a.1) = a.1 := toN_net false false _
  rw [e0]
  refine ⟨fun h => (ne_no (by rw [ha]; rfl) h).elim, fun _ => ⟨fun h => (ne_no (by rw [ha]; rfl) h).elim, fun _ => ⟨rvalid_ok va, trivial, fun h => (nt_no (valid_ok va) h).elim, fun _ => ⟨sent_fun va 1 2, by simp, ?_⟩⟩⟩⟩
  rw [ha]
  refine cut_ok (S2 := S_sa5 sB) (ent_of [(2, 2)] rfl (tm_cons rfl (sm_ptr rfl) tm_nil) (hp_cons rfl rfl (sm_same rfl) hp_nil)) ?_
  clear e0 va ha
  obtain ⟨b, hb⟩ : ∃ b, b = sB := ⟨_, rfl⟩
  rw [← hb]
  refine of_eq (sanity_C5 b 0 _) ?_
  have vb : VN b.1 := hb ▸ vnB
  have e0 : toN (netD b.1) = b.1 := toN_net false false _
  rw [e0]
  refine ⟨fun h => (ne_no (by rw [hb]; rfl) h).elim, fun _ => ⟨fun h => (ne_no (by rw [hb]; rfl) h).elim, fun _ => ⟨rvalid_ok vb, trivial, fun h => (nt_no (valid_ok vb) h).elim, fun _ => ⟨done_pair vb 2 2 1, by simp, ?_⟩⟩⟩⟩
  have ec : sC = (doneN b.1 2 (2, 1), (0, 0, 0), doneE b.1 2 (2, 1)) := by rw [hb]; rfl
  refine cut_ok (S2 := S_sa8 b sC) (ent_of [(2, 2), (3, 3)] rfl (tm_cons rfl (sm_ptr rfl) (tm_cons rfl (sm_ptr rfl) tm_nil)) (hp_cons rfl rfl (sm_same rfl) (hp_cons rfl rfl (sm_eq rfl (by rw [ec])) hp_nil))) ?_
  clear ec
  obtain ⟨c, hc⟩ : ∃ c, c = sC := ⟨_, rfl⟩
  rw [← hc]
  refine of_eq (sanity_C8 b c 0 _) ?_
  have vc : VN c.1 := hc ▸ vnC
  have e1 : toN (netD c.1) = c.1 := toN_net false false _
  rw [e1]
  refine ⟨fun h => (ne_no (by rw [hc]; rfl) h).elim, fun _ => ⟨rvalid_ok vc, trivial, fun h => (nt_no (valid_ok vc) h).elim, fun _ => ⟨taken_fun vc 1, fun h => (ne_no (by rw [hc]; rfl) h).elim, fun _ => ⟨done_pair vc 3 1 2, by simp, ?_⟩⟩⟩⟩
  have eh : sH = (doneN c.1 3 (1, 2), (0, 0, 0), doneE c.1 3 (1, 2)) := by rw [hc]; rfl
  refine cut_ok (S2 := S_sa11 b c sH) (ent_of [(2, 2), (3, 3), (4, 4)] rfl (tm_cons rfl (sm_ptr rfl) (tm_cons rfl (sm_ptr rfl) (tm_cons rfl (sm_ptr rfl) tm_nil))) (hp_cons rfl rfl (sm_same rfl) (hp_cons rfl rfl (sm_same rfl) (hp_cons rfl rfl (sm_eq rfl (by rw [eh])) hp_nil)))) ?_
  clear eh
  obtain ⟨h, hh⟩ : ∃ h, h = sH := ⟨_, rfl⟩
  rw [← hh]
  refine of_eq (sanity_C11 b c h 0 _) ?_
  have vh : VN h.1 := hh ▸ vnH
  have e2 : toN (netD h.1) = h.1 := toN_net false false _
  rw [e0, e2]
  refine ⟨fun q => (ne_no (by rw [hh]; rfl) q).elim, fun _ => ⟨same_ok vh, trivial, fun q => (nt_no (by rw [hh, hb]; decide) q).elim, fun _ => ⟨taken_fun vb 1, done_pair vb 1 2 0, by simp, by simp, ?_⟩⟩⟩
  have et : sTk = (takeN b.1 1, takeP b.1 1, takeE b.1 1) := by rw [hb]; rfl
  have ed : sDb = (doneN b.1 1 (2, 0), (0, 0, 0), doneE b.1 1 (2, 0)) := by rw [hb]; rfl
  refine cut_ok (S2 := S_sa14 b c sTk sDb) (ent_of [(2, 2), (3, 3), (5, 5), (6, 6)] rfl (tm_cons rfl (sm_ptr rfl) (tm_cons rfl (sm_ptr rfl) (tm_cons rfl (sm_ptr rfl) (tm_cons rfl (sm_ptr rfl) tm_nil)))) (hp_cons rfl rfl (sm_same rfl) (hp_cons rfl rfl (sm_same rfl) (hp_cons rfl rfl (sm_eq rfl (by rw [et])) (hp_cons rfl rfl (sm_eq rfl (by rw [ed])) hp_nil))))) ?_
  clear et ed
  obtain ⟨t, ht⟩ : ∃ t, t = sTk := ⟨_, rfl⟩
  obtain ⟨d, hd⟩ : ∃ d, d = sDb := ⟨_, rfl⟩
  rw [← ht, ← hd]
  refine of_eq (sanity_C14 b c t d 0 _) ?_
  have vt : VN t.1 := ht ▸ vnT
  have vd : VN d.1 := hd ▸ vnD
  have e3 : toN (netD t.1) = t.1 := toN_net false false _
  have e4 : toN (netD d.1) = d.1 := toN_net false false _
  rw [e3, e4]
  refine ⟨fun q => (ne_no (by rw [ht]; rfl) q).elim, fun _ => ⟨fun q => (nt_no (by rw [ht]; decide) q).elim, fun _ => ⟨rvalid_ok vt, trivial, fun q => (nt_no (valid_ok vt) q).elim, fun _ => ⟨fun q => (ne_no (by rw [hd]; rfl) q).elim, fun _ => ⟨rvalid_ok vd, trivial, fun q => (nt_no (valid_ok vd) q).elim, fun _ => ⟨done_pair vd 0 2 0, by simp, ?_⟩⟩⟩⟩⟩⟩
  have el : sLo = (doneN d.1 0 (2, 0), (0, 0, 0), doneE d.1 0 (2, 0)) := by rw [hd]; rfl
  refine cut_ok (S2 := S_sa17 b c t sLo) (ent_of [(2, 2), (3, 3), (5, 5), (7, 7)] rfl (tm_cons rfl (sm_ptr rfl) (tm_cons rfl (sm_ptr rfl) (tm_cons rfl (sm_ptr rfl) (tm_cons rfl (sm_ptr rfl) tm_nil)))) (hp_cons rfl rfl (sm_same rfl) (hp_cons rfl rfl (sm_same rfl) (hp_cons rfl rfl (sm_same rfl) (hp_cons rfl rfl (sm_eq rfl (by rw [el])) hp_nil))))) ?_
  clear el
  obtain ⟨l, hl⟩ : ∃ l, l = sLo := ⟨_, rfl⟩
  rw [← hl]
  refine of_eq (sanity_C17 b c t l 0 _) ?_
  have vl : VN l.1 := hl ▸ vnL
  have e5 : toN (netD l.1) = l.1 := toN_net false false _
  rw [e0, e1, e3, e5]
  refine ⟨fun q => (ne_no (by rw [hl]; rfl) q).elim, fun _ => ⟨rvalid_ok vl, trivial, fun q => (nt_no (valid_ok vl) q).elim, fun _ => ⟨taken_fun vt 1, fun _ => ⟨taken_fun vl 3, fun _ => ⟨sent_fun vb 1 1, fun _ => ⟨reach_fun vc 1 2, trivial, fun _ => ⟨reach_fun vc 1 3, trivial, fun _ => ⟨valid_ok_fun vb, trivial, fun _ => ⟨?_, trivial, post_tmp rfl (sm_sb rfl)⟩, fun q => (tf_no (valid_ok vb) q).elim⟩, fun q => (tf_no (by rw [hc]; decide) q).elim⟩, fun q => (tf_no (by rw [hc]; decide) q).elim⟩, fun q => (tf_no (by rw [hb]; decide) q).elim⟩, fun q => (tf_no (by rw [hl]; decide) q).elim⟩, fun q => (tf_no (by rw [ht]; decide) q).elim⟩⟩⟩
  exact (valid_fun ⟨[], [], 0⟩ (by decide) (by decide)).sim ⟨sm_st ⟨.inr ⟨rfl, by simp, .inl rfl, fun i hi => absurd hi (Nat.not_lt_zero i)⟩, .inr ⟨rfl, by simp, .inl rfl, fun i hi => absurd hi (Nat.not_lt_zero i)⟩, sm_int rfl, trivial⟩, trivial⟩ trivial
end Go.Bu.W

namespace Go.Bu.W
theorem typed_tri {n : Nat} {x : AV} (h : Typed C.tt (n + 2) 47 x) : ∃ p : Tri, (p.1 < 256 ∧ p.2.1 < 256 ∧ p.2.2 < 256) ∧ sim (fun _ => none) x (triA p) := by
  obtain ⟨z, hz, f, rfl, hf⟩ := typed_u8s (e := 5) (m := 3) rfl rfl rfl h
  refine ⟨(z 0, z 1, z 2), ⟨hz 0 (by decide), hz 1 (by decide), hz 2 (by decide)⟩, rfl, rfl, fun i hi => .inl ?_⟩
  match i, hi with
  | 0, _ => exact hf 0 (by decide)
  | 1, _ => exact hf 1 (by decide)
  | 2, _ => exact hf 2 (by decide)
theorem typed_tris {x : AV} (h : Typed C.tt 6 22 x) : ∃ (l : List Tri) (ex : Bool), l.length ≤ maxLen ∧ (∀ p, p ∈ l → p.1 < 256 ∧ p.2.1 < 256 ∧ p.2.2 < 256) ∧ simR some x (dTri ex l) :=
  typed_list (s := 47) rfl (0, 0, 0) triA (fun p => p.1 < 256 ∧ p.2.1 < 256 ∧ p.2.2 < 256) (fun _ hy => typed_tri hy) h
end Go.Bu.W

