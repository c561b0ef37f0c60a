/- NetScripts. -/
import Derived.Test.YtjfggjlbnmdceaaK15
namespace Go.Bu.W
def wayLs (keep : List Nat) (nt : Nat) (cuts : List Nat) : Way := ⟨crN9, byrefI, keep, [], nt, cuts⟩
def w_nls : Way := wayLs [0, 2, 3, 4, 5, 6, 7, 8, 9, 10, 21, 40, 52, 61, 70, 115] 117 [19]
def I_ls (ex : Bool) (l : List Tri) (s : Net × Nat) : St := { tm := [(0, dTri ex l), (3, .sb true), (4, .ptr 4 []), (5, .ptr 5 []), (6, i64 s.2)], hp := [(4, .c (netD s.1)), (5, .c (netD s.1))], seen := [4, 5] }
def S_ls19 (ex : Bool) (l : List Tri) (i : Nat) (x : Tri) (m m2 : Net) : St := { tm := [(0, dTri ex l), (3, .sb true), (4, .ptr 4 []), (5, .ptr 5 []), (6, i64 i), (7, .ptr 7 []), (8, .i m.next)], hp := [(4, .c (netD m2)), (5, .c (netD m)), (7, .c (triA x))], seen := [4, 5, 7] }

theorem nls_A (ex : Bool) (l : List Tri) (K : Nat) (Φ : Ex → St → Prop) :
  (Holds C P 117 [] K Φ (vc C w_nls b_nls [] (start [dTri ex l] []) lf)) =
  (Fun W.C W.P 11 [] [] (AV.sb true) [] ∧
 (True ∧
 ((W.ShK) ∧
 ((W.ShK) ∧
 (LoopOK W.C W.P 117 [] K (bodyAt b_nls [1, 1, 1, 0, 1, 0]) (St.mk [(0, (W.dTri ex l)), (2, (AV.v (Value.bool false))), (3, (AV.sb true)), (4, (AV.ptr 4 [])), (5, (AV.ptr 5 [])), (6, (AV.i (0 : Int)))] [(4, (Blk.c (AV.st [(AV.dat 0 true 0 (fun (x : Nat) => (AV.v (Value.tuple (List.toArray []))))), (AV.dat 0 true 0 (fun (x : Nat) => (AV.v (Value.tuple (List.toArray []))))), (AV.i (1 : Int))]))), (5, (Blk.c (AV.st [(AV.dat 0 true 0 (fun (x : Nat) => (AV.v (Value.tuple (List.toArray []))))), (AV.dat 0 true 0 (fun (x : Nat) => (AV.v (Value.tuple (List.toArray []))))), (AV.i (1 : Int))])))] [5, 4]) (fun (e : Ex) (S' : St) => Holds W.C W.P 117 [] K Φ (after W.C w_nls b_nls [1, 1, 1, 0, 1, 0] [] lf e S'))))))) := by kernel_rfl
noncomputable abbrev bd_nls_0 : Code := bodyAt (b_nls) [1, 1, 1, 0, 1, 0]
theorem ok_nls_0 : codeOK bd_nls_0 = true := by kernel_rfl
noncomputable abbrev rest_nls_0 (K : Nat) (Φ : Ex → St → Prop) : Ex → St → Prop := fun e S' => Holds C P 117 [] K Φ (after C w_nls (b_nls) [1, 1, 1, 0, 1, 0] [] lf e S')
theorem nls_L0 (ex : Bool) (l : List Tri) (s : Net × Nat) (K : Nat) (Φ : Ex → St → Prop) :
  (Holds C P 117 [] K (RoundQ C 117 [] K (I_ls ex l) (fun s => VN s.1 ∧ s.2 ≤ l.length ∧ s.2 ≤ 30) (fun s => 30 - s.2) ((fun s => 30 - s.2) (s)) (rest_nls_0 K Φ)) (vc C w_nls bd_nls_0 [] ((I_ls ex l) (s)) lf)) =
  (((decide ((((Prod.snd s) : Nat) : Int) < (((List.length l) : Nat) : Int))) = true →
 (((decide ((((Prod.snd s) : Nat) : Int) < (30 : Int))) = true →
  ((((0 : Int) ≤ (((Prod.snd s) : Nat) : Int)) ∧ ((((Prod.snd s) : Nat) : Int) < (((List.length l) : Nat) : Int))) ∧
   (((3 = 3) ∧ ((1 = 1) ∧ (∀ (i : Nat), ((i < 3) → ((true = true) ∧ (true = true)))))) ∧
   ((((0 : Int) ≤ (1 : Int)) ∧ ((1 : Int) < (3 : Int))) ∧
   (((5 : Int) ≠ (0 : Int)) ∧
   ((I64 ((((W.tri (W.tAt l (Prod.snd s)) 1) % 5) : Nat) : Int)) ∧
   ((((0 : Int) ≤ (2 : Int)) ∧ ((2 : Int) < (3 : Int))) ∧
   (((5 : Int) ≠ (0 : Int)) ∧
   ((I64 ((((W.tri (W.tAt l (Prod.snd s)) 2) % 5) : Nat) : Int)) ∧
   ((((0 : Int) ≤ (0 : Int)) ∧ ((0 : Int) < (3 : Int))) ∧
   (((8 : Int) ≠ (0 : Int)) ∧
   (((((((W.tri (W.tAt l (Prod.snd s)) 0) % 8) : Nat) : Int) == (0 : Int)) = true →
   (Fun W.C W.P 13 [(W.netA false false (Prod.fst s)), (AV.i ((((W.tri (W.tAt l (Prod.snd s)) 1) % 5) : Nat) : Int)), (AV.i ((((W.tri (W.tAt l (Prod.snd s)) 2) % 5) : Nat) : Int))] [] (AV.st [(W.netA false false (W.sendN (W.toN (W.netA false false (Prod.fst s))) ((((W.tri (W.tAt l (Prod.snd s)) 1) % 5) : Nat) : Int) ((((W.tri (W.tAt l (Prod.snd s)) 2) % 5) : Nat) : Int))), (AV.i (W.sendI (W.toN (W.netA false false (Prod.fst s))) ((((W.tri (W.tAt l (Prod.snd s)) 1) % 5) : Nat) : Int) ((((W.tri (W.tAt l (Prod.snd s)) 2) % 5) : Nat) : Int))), (AV.i (W.sendE (W.toN (W.netA false false (Prod.fst s))) ((((W.tri (W.tAt l (Prod.snd s)) 1) % 5) : Nat) : Int) ((((W.tri (W.tAt l (Prod.snd s)) 2) % 5) : Nat) : Int)))]) [] ∧
    ((W.ShK) ∧
    (∃ (S2 : St), Ent W.C 117 [] K (St.mk [(0, (W.dTri ex l)), (3, (AV.sb true)), (4, (AV.ptr 4 [])), (5, (AV.ptr 5 [])), (6, (AV.i (((Prod.snd s) : Nat) : Int))), (7, (AV.ptr 7 [])), (8, (AV.i (W.Net.next (Prod.fst s)))), (9, (AV.i ((((W.tri (W.tAt l (Prod.snd s)) 1) % 5) : Nat) : Int))), (10, (AV.i ((((W.tri (W.tAt l (Prod.snd s)) 2) % 5) : Nat) : Int))), (21, (AV.v (Value.bool true))), (40, (AV.v (Value.int IntKind.u8 ((((W.tri (W.tAt l (Prod.snd s)) 0) % 8) : Nat) : Int)))), (52, (AV.v (Value.bool true)))] [(4, (Blk.c (W.netA false false (W.sendN (W.toN (W.netA false false (Prod.fst s))) ((((W.tri (W.tAt l (Prod.snd s)) 1) % 5) : Nat) : Int) ((((W.tri (W.tAt l (Prod.snd s)) 2) % 5) : Nat) : Int))))), (5, (Blk.c (W.netA false false (Prod.fst s)))), (7, (Blk.c (W.triA (W.tAt l (Prod.snd s)))))] [7, 4, 5]) S2 ∧ Holds W.C W.P 117 [] K (RoundQ C 117 [] K (I_ls ex l) (fun s => VN s.1 ∧ s.2 ≤ l.length ∧ s.2 ≤ 30) (fun s => 30 - s.2) ((fun s => 30 - s.2) (s)) (rest_nls_0 K Φ)) (cutAt W.C w_nls bd_nls_0 [1, 0, 0, 1, 1, 1, 0] S2 (after W.C w_nls bd_nls_0 [1, 0, 0, 1, 1, 1, 0] [] lf)))))) ∧
   ((((((W.tri (W.tAt l (Prod.snd s)) 0) % 8) : Nat) : Int) == (0 : Int)) = false →
   (((((((W.tri (W.tAt l (Prod.snd s)) 0) % 8) : Nat) : Int) == (1 : Int)) = true →
    (Fun W.C W.P 13 [(W.netA false false (Prod.fst s)), (AV.i ((((W.tri (W.tAt l (Prod.snd s)) 1) % 5) : Nat) : Int)), (AV.i ((((W.tri (W.tAt l (Prod.snd s)) 2) % 5) : Nat) : Int))] [] (AV.st [(W.netA false false (W.sendN (W.toN (W.netA false false (Prod.fst s))) ((((W.tri (W.tAt l (Prod.snd s)) 1) % 5) : Nat) : Int) ((((W.tri (W.tAt l (Prod.snd s)) 2) % 5) : Nat) : Int))), (AV.i (W.sendI (W.toN (W.netA false false (Prod.fst s))) ((((W.tri (W.tAt l (Prod.snd s)) 1) % 5) : Nat) : Int) ((((W.tri (W.tAt l (Prod.snd s)) 2) % 5) : Nat) : Int))), (AV.i (W.sendE (W.toN (W.netA false false (Prod.fst s))) ((((W.tri (W.tAt l (Prod.snd s)) 1) % 5) : Nat) : Int) ((((W.tri (W.tAt l (Prod.snd s)) 2) % 5) : Nat) : Int)))]) [] ∧
     ((W.ShK) ∧
     (∃ (S2 : St), Ent W.C 117 [] K (St.mk [(0, (W.dTri ex l)), (3, (AV.sb true)), (4, (AV.ptr 4 [])), (5, (AV.ptr 5 [])), (6, (AV.i (((Prod.snd s) : Nat) : Int))), (7, (AV.ptr 7 [])), (8, (AV.i (W.Net.next (Prod.fst s)))), (9, (AV.i ((((W.tri (W.tAt l (Prod.snd s)) 1) % 5) : Nat) : Int))), (10, (AV.i ((((W.tri (W.tAt l (Prod.snd s)) 2) % 5) : Nat) : Int))), (21, (AV.v (Value.bool true))), (40, (AV.v (Value.int IntKind.u8 ((((W.tri (W.tAt l (Prod.snd s)) 0) % 8) : Nat) : Int)))), (52, (AV.v (Value.bool true)))] [(4, (Blk.c (W.netA false false (W.sendN (W.toN (W.netA false false (Prod.fst s))) ((((W.tri (W.tAt l (Prod.snd s)) 1) % 5) : Nat) : Int) ((((W.tri (W.tAt l (Prod.snd s)) 2) % 5) : Nat) : Int))))), (5, (Blk.c (W.netA false false (Prod.fst s)))), (7, (Blk.c (W.triA (W.tAt l (Prod.snd s)))))] [7, 4, 5]) S2 ∧ Holds W.C W.P 117 [] K (RoundQ C 117 [] K (I_ls ex l) (fun s => VN s.1 ∧ s.2 ≤ l.length ∧ s.2 ≤ 30) (fun s => 30 - s.2) ((fun s => 30 - s.2) (s)) (rest_nls_0 K Φ)) (cutAt W.C w_nls bd_nls_0 [1, 0, 0, 1, 1, 1, 0] S2 (after W.C w_nls bd_nls_0 [1, 0, 0, 1, 1, 1, 0] [] lf)))))) ∧
    ((((((W.tri (W.tAt l (Prod.snd s)) 0) % 8) : Nat) : Int) == (1 : Int)) = false →
    (((((((W.tri (W.tAt l (Prod.snd s)) 0) % 8) : Nat) : Int) == (2 : Int)) = true →
     (Fun W.C W.P 13 [(W.netA false false (Prod.fst s)), (AV.i ((((W.tri (W.tAt l (Prod.snd s)) 1) % 5) : Nat) : Int)), (AV.i ((((W.tri (W.tAt l (Prod.snd s)) 2) % 5) : Nat) : Int))] [] (AV.st [(W.netA false false (W.sendN (W.toN (W.netA false false (Prod.fst s))) ((((W.tri (W.tAt l (Prod.snd s)) 1) % 5) : Nat) : Int) ((((W.tri (W.tAt l (Prod.snd s)) 2) % 5) : Nat) : Int))), (AV.i (W.sendI (W.toN (W.netA false false (Prod.fst s))) ((((W.tri (W.tAt l (Prod.snd s)) 1) % 5) : Nat) : Int) ((((W.tri (W.tAt l (Prod.snd s)) 2) % 5) : Nat) : Int))), (AV.i (W.sendE (W.toN (W.netA false false (Prod.fst s))) ((((W.tri (W.tAt l (Prod.snd s)) 1) % 5) : Nat) : Int) ((((W.tri (W.tAt l (Prod.snd s)) 2) % 5) : Nat) : Int)))]) [] ∧
      ((W.ShK) ∧
      (∃ (S2 : St), Ent W.C 117 [] K (St.mk [(0, (W.dTri ex l)), (3, (AV.sb true)), (4, (AV.ptr 4 [])), (5, (AV.ptr 5 [])), (6, (AV.i (((Prod.snd s) : Nat) : Int))), (7, (AV.ptr 7 [])), (8, (AV.i (W.Net.next (Prod.fst s)))), (9, (AV.i ((((W.tri (W.tAt l (Prod.snd s)) 1) % 5) : Nat) : Int))), (10, (AV.i ((((W.tri (W.tAt l (Prod.snd s)) 2) % 5) : Nat) : Int))), (21, (AV.v (Value.bool true))), (40, (AV.v (Value.int IntKind.u8 ((((W.tri (W.tAt l (Prod.snd s)) 0) % 8) : Nat) : Int)))), (52, (AV.v (Value.bool true)))] [(4, (Blk.c (W.netA false false (W.sendN (W.toN (W.netA false false (Prod.fst s))) ((((W.tri (W.tAt l (Prod.snd s)) 1) % 5) : Nat) : Int) ((((W.tri (W.tAt l (Prod.snd s)) 2) % 5) : Nat) : Int))))), (5, (Blk.c (W.netA false false (Prod.fst s)))), (7, (Blk.c (W.triA (W.tAt l (Prod.snd s)))))] [7, 4, 5]) S2 ∧ Holds W.C W.P 117 [] K (RoundQ C 117 [] K (I_ls ex l) (fun s => VN s.1 ∧ s.2 ≤ l.length ∧ s.2 ≤ 30) (fun s => 30 - s.2) ((fun s => 30 - s.2) (s)) (rest_nls_0 K Φ)) (cutAt W.C w_nls bd_nls_0 [1, 0, 0, 1, 1, 1, 0] S2 (after W.C w_nls bd_nls_0 [1, 0, 0, 1, 1, 1, 0] [] lf)))))) ∧
     ((((((W.tri (W.tAt l (Prod.snd s)) 0) % 8) : Nat) : Int) == (2 : Int)) = false →
     (((((((W.tri (W.tAt l (Prod.snd s)) 0) % 8) : Nat) : Int) == (3 : Int)) = true →
      ((((0 : Int) ≤ (1 : Int)) ∧ ((1 : Int) < (3 : Int))) ∧
       (((16 : Int) ≠ (0 : Int)) ∧
       ((I64 ((((W.tri (W.tAt l (Prod.snd s)) 1) % 16) : Nat) : Int)) ∧
       (Fun W.C W.P 17 [(W.netA false false (Prod.fst s)), (AV.i ((((W.tri (W.tAt l (Prod.snd s)) 1) % 16) : Nat) : Int))] [] (AV.st [(W.netA false false (W.takeN (W.toN (W.netA false false (Prod.fst s))) ((((W.tri (W.tAt l (Prod.snd s)) 1) % 16) : Nat) : Int))), (W.pkA (W.takeP (W.toN (W.netA false false (Prod.fst s))) ((((W.tri (W.tAt l (Prod.snd s)) 1) % 16) : Nat) : Int))), (AV.i (W.takeE (W.toN (W.netA false false (Prod.fst s))) ((((W.tri (W.tAt l (Prod.snd s)) 1) % 16) : Nat) : Int)))]) [] ∧
       ((W.ShK) ∧
       (∃ (S2 : St), Ent W.C 117 [] K (St.mk [(0, (W.dTri ex l)), (3, (AV.sb true)), (4, (AV.ptr 4 [])), (5, (AV.ptr 5 [])), (6, (AV.i (((Prod.snd s) : Nat) : Int))), (7, (AV.ptr 7 [])), (8, (AV.i (W.Net.next (Prod.fst s)))), (9, (AV.i ((((W.tri (W.tAt l (Prod.snd s)) 1) % 5) : Nat) : Int))), (10, (AV.i ((((W.tri (W.tAt l (Prod.snd s)) 2) % 5) : Nat) : Int))), (21, (AV.v (Value.bool true))), (40, (AV.v (Value.int IntKind.u8 ((((W.tri (W.tAt l (Prod.snd s)) 0) % 8) : Nat) : Int)))), (52, (AV.v (Value.bool false))), (61, (AV.v (Value.bool true)))] [(4, (Blk.c (W.netA false false (W.takeN (W.toN (W.netA false false (Prod.fst s))) ((((W.tri (W.tAt l (Prod.snd s)) 1) % 16) : Nat) : Int))))), (5, (Blk.c (W.netA false false (Prod.fst s)))), (7, (Blk.c (W.triA (W.tAt l (Prod.snd s)))))] [7, 4, 5]) S2 ∧ Holds W.C W.P 117 [] K (RoundQ C 117 [] K (I_ls ex l) (fun s => VN s.1 ∧ s.2 ≤ l.length ∧ s.2 ≤ 30) (fun s => 30 - s.2) ((fun s => 30 - s.2) (s)) (rest_nls_0 K Φ)) (cutAt W.C w_nls bd_nls_0 [1, 0, 0, 1, 1, 1, 0] S2 (after W.C w_nls bd_nls_0 [1, 0, 0, 1, 1, 1, 0] [] lf))))))))) ∧
      ((((((W.tri (W.tAt l (Prod.snd s)) 0) % 8) : Nat) : Int) == (3 : Int)) = false →
      (((((((W.tri (W.tAt l (Prod.snd s)) 0) % 8) : Nat) : Int) == (4 : Int)) = true →
       ((((0 : Int) ≤ (0 : Int)) ∧ ((0 : Int) < (3 : Int))) ∧
        (((8 : Int) ≠ (0 : Int)) ∧
        ((I64 ((((W.tri (W.tAt l (Prod.snd s)) 0) % 8) : Nat) : Int)) ∧
        ((I64 (((((W.tri (W.tAt l (Prod.snd s)) 0) % 8) : Nat) : Int) - (4 : Int))) ∧
        ((((0 : Int) ≤ (1 : Int)) ∧ ((1 : Int) < (3 : Int))) ∧
        (((16 : Int) ≠ (0 : Int)) ∧
        ((I64 ((((W.tri (W.tAt l (Prod.snd s)) 1) % 16) : Nat) : Int)) ∧
        (Fun W.C W.P 21 [(W.netA false false (Prod.fst s)), (AV.i (((((W.tri (W.tAt l (Prod.snd s)) 0) % 8) : Nat) : Int) - (4 : Int))), (AV.arr 2 1 (layParts (fun (x : Nat) => (AV.i (0 : Int))) [(0, (AV.i ((((W.tri (W.tAt l (Prod.snd s)) 1) % 16) : Nat) : Int))), (1, (AV.i (0 : Int)))]))] [] (AV.st [(W.netA false false (W.doneN (W.toN (W.netA false false (Prod.fst s))) (((((W.tri (W.tAt l (Prod.snd s)) 0) % 8) : Nat) : Int) - (4 : Int)) (((((W.tri (W.tAt l (Prod.snd s)) 1) % 16) : Nat) : Int), (0 : Int)))), (AV.st [(AV.i (0 : Int)), (AV.i (0 : Int)), (AV.i (0 : Int))]), (AV.i (W.doneE (W.toN (W.netA false false (Prod.fst s))) (((((W.tri (W.tAt l (Prod.snd s)) 0) % 8) : Nat) : Int) - (4 : Int)) (((((W.tri (W.tAt l (Prod.snd s)) 1) % 16) : Nat) : Int), (0 : Int))))]) [] ∧
        ((W.ShK) ∧
        (∃ (S2 : St), Ent W.C 117 [] K (St.mk [(0, (W.dTri ex l)), (3, (AV.sb true)), (4, (AV.ptr 4 [])), (5, (AV.ptr 5 [])), (6, (AV.i (((Prod.snd s) : Nat) : Int))), (7, (AV.ptr 7 [])), (8, (AV.i (W.Net.next (Prod.fst s)))), (9, (AV.i ((((W.tri (W.tAt l (Prod.snd s)) 1) % 5) : Nat) : Int))), (10, (AV.i ((((W.tri (W.tAt l (Prod.snd s)) 2) % 5) : Nat) : Int))), (21, (AV.v (Value.bool true))), (40, (AV.v (Value.int IntKind.u8 ((((W.tri (W.tAt l (Prod.snd s)) 0) % 8) : Nat) : Int)))), (52, (AV.v (Value.bool false))), (61, (AV.v (Value.bool false))), (70, (AV.v (Value.bool true)))] [(4, (Blk.c (W.netA false false (W.doneN (W.toN (W.netA false false (Prod.fst s))) (((((W.tri (W.tAt l (Prod.snd s)) 0) % 8) : Nat) : Int) - (4 : Int)) (((((W.tri (W.tAt l (Prod.snd s)) 1) % 16) : Nat) : Int), (0 : Int)))))), (5, (Blk.c (W.netA false false (Prod.fst s)))), (7, (Blk.c (W.triA (W.tAt l (Prod.snd s)))))] [7, 4, 5]) S2 ∧ Holds W.C W.P 117 [] K (RoundQ C 117 [] K (I_ls ex l) (fun s => VN s.1 ∧ s.2 ≤ l.length ∧ s.2 ≤ 30) (fun s => 30 - s.2) ((fun s => 30 - s.2) (s)) (rest_nls_0 K Φ)) (cutAt W.C w_nls bd_nls_0 [1, 0, 0, 1, 1, 1, 0] S2 (after W.C w_nls bd_nls_0 [1, 0, 0, 1, 1, 1, 0] [] lf))))))))))))) ∧
       ((((((W.tri (W.tAt l (Prod.snd s)) 0) % 8) : Nat) : Int) == (4 : Int)) = false →
       (((((((W.tri (W.tAt l (Prod.snd s)) 0) % 8) : Nat) : Int) == (5 : Int)) = true →
        ((((0 : Int) ≤ (0 : Int)) ∧ ((0 : Int) < (3 : Int))) ∧
         (((8 : Int) ≠ (0 : Int)) ∧
         ((I64 ((((W.tri (W.tAt l (Prod.snd s)) 0) % 8) : Nat) : Int)) ∧
         ((I64 (((((W.tri (W.tAt l (Prod.snd s)) 0) % 8) : Nat) : Int) - (4 : Int))) ∧
         ((((0 : Int) ≤ (1 : Int)) ∧ ((1 : Int) < (3 : Int))) ∧
         (((16 : Int) ≠ (0 : Int)) ∧
         ((I64 ((((W.tri (W.tAt l (Prod.snd s)) 1) % 16) : Nat) : Int)) ∧
         (Fun W.C W.P 21 [(W.netA false false (Prod.fst s)), (AV.i (((((W.tri (W.tAt l (Prod.snd s)) 0) % 8) : Nat) : Int) - (4 : Int))), (AV.arr 2 1 (layParts (fun (x : Nat) => (AV.i (0 : Int))) [(0, (AV.i ((((W.tri (W.tAt l (Prod.snd s)) 1) % 16) : Nat) : Int))), (1, (AV.i (0 : Int)))]))] [] (AV.st [(W.netA false false (W.doneN (W.toN (W.netA false false (Prod.fst s))) (((((W.tri (W.tAt l (Prod.snd s)) 0) % 8) : Nat) : Int) - (4 : Int)) (((((W.tri (W.tAt l (Prod.snd s)) 1) % 16) : Nat) : Int), (0 : Int)))), (AV.st [(AV.i (0 : Int)), (AV.i (0 : Int)), (AV.i (0 : Int))]), (AV.i (W.doneE (W.toN (W.netA false false (Prod.fst s))) (((((W.tri (W.tAt l (Prod.snd s)) 0) % 8) : Nat) : Int) - (4 : Int)) (((((W.tri (W.tAt l (Prod.snd s)) 1) % 16) : Nat) : Int), (0 : Int))))]) [] ∧
         ((W.ShK) ∧
         (∃ (S2 : St), Ent W.C 117 [] K (St.mk [(0, (W.dTri ex l)), (3, (AV.sb true)), (4, (AV.ptr 4 [])), (5, (AV.ptr 5 [])), (6, (AV.i (((Prod.snd s) : Nat) : Int))), (7, (AV.ptr 7 [])), (8, (AV.i (W.Net.next (Prod.fst s)))), (9, (AV.i ((((W.tri (W.tAt l (Prod.snd s)) 1) % 5) : Nat) : Int))), (10, (AV.i ((((W.tri (W.tAt l (Prod.snd s)) 2) % 5) : Nat) : Int))), (21, (AV.v (Value.bool true))), (40, (AV.v (Value.int IntKind.u8 ((((W.tri (W.tAt l (Prod.snd s)) 0) % 8) : Nat) : Int)))), (52, (AV.v (Value.bool false))), (61, (AV.v (Value.bool false))), (70, (AV.v (Value.bool true)))] [(4, (Blk.c (W.netA false false (W.doneN (W.toN (W.netA false false (Prod.fst s))) (((((W.tri (W.tAt l (Prod.snd s)) 0) % 8) : Nat) : Int) - (4 : Int)) (((((W.tri (W.tAt l (Prod.snd s)) 1) % 16) : Nat) : Int), (0 : Int)))))), (5, (Blk.c (W.netA false false (Prod.fst s)))), (7, (Blk.c (W.triA (W.tAt l (Prod.snd s)))))] [7, 4, 5]) S2 ∧ Holds W.C W.P 117 [] K (RoundQ C 117 [] K (I_ls ex l) (fun s => VN s.1 ∧ s.2 ≤ l.length ∧ s.2 ≤ 30) (fun s => 30 - s.2) ((fun s => 30 - s.2) (s)) (rest_nls_0 K Φ)) (cutAt W.C w_nls bd_nls_0 [1, 0, 0, 1, 1, 1, 0] S2 (after W.C w_nls bd_nls_0 [1, 0, 0, 1, 1, 1, 0] [] lf))))))))))))) ∧
        ((((((W.tri (W.tAt l (Prod.snd s)) 0) % 8) : Nat) : Int) == (5 : Int)) = false →
        ((((0 : Int) ≤ (0 : Int)) ∧ ((0 : Int) < (3 : Int))) ∧
         (((8 : Int) ≠ (0 : Int)) ∧
         ((I64 ((((W.tri (W.tAt l (Prod.snd s)) 0) % 8) : Nat) : Int)) ∧
         ((I64 (((((W.tri (W.tAt l (Prod.snd s)) 0) % 8) : Nat) : Int) - (4 : Int))) ∧
         (Fun W.C W.P 21 [(W.netA false false (Prod.fst s)), (AV.i (((((W.tri (W.tAt l (Prod.snd s)) 0) % 8) : Nat) : Int) - (4 : Int))), (AV.arr 2 1 (layParts (fun (x : Nat) => (AV.i (0 : Int))) [(0, (AV.i ((((W.tri (W.tAt l (Prod.snd s)) 1) % 5) : Nat) : Int))), (1, (AV.i ((((W.tri (W.tAt l (Prod.snd s)) 2) % 5) : Nat) : Int)))]))] [] (AV.st [(W.netA false false (W.doneN (W.toN (W.netA false false (Prod.fst s))) (((((W.tri (W.tAt l (Prod.snd s)) 0) % 8) : Nat) : Int) - (4 : Int)) (((((W.tri (W.tAt l (Prod.snd s)) 1) % 5) : Nat) : Int), ((((W.tri (W.tAt l (Prod.snd s)) 2) % 5) : Nat) : Int)))), (AV.st [(AV.i (0 : Int)), (AV.i (0 : Int)), (AV.i (0 : Int))]), (AV.i (W.doneE (W.toN (W.netA false false (Prod.fst s))) (((((W.tri (W.tAt l (Prod.snd s)) 0) % 8) : Nat) : Int) - (4 : Int)) (((((W.tri (W.tAt l (Prod.snd s)) 1) % 5) : Nat) : Int), ((((W.tri (W.tAt l (Prod.snd s)) 2) % 5) : Nat) : Int))))]) [] ∧
         ((W.ShK) ∧
         (∃ (S2 : St), Ent W.C 117 [] K (St.mk [(0, (W.dTri ex l)), (3, (AV.sb true)), (4, (AV.ptr 4 [])), (5, (AV.ptr 5 [])), (6, (AV.i (((Prod.snd s) : Nat) : Int))), (7, (AV.ptr 7 [])), (8, (AV.i (W.Net.next (Prod.fst s)))), (9, (AV.i ((((W.tri (W.tAt l (Prod.snd s)) 1) % 5) : Nat) : Int))), (10, (AV.i ((((W.tri (W.tAt l (Prod.snd s)) 2) % 5) : Nat) : Int))), (21, (AV.v (Value.bool true))), (40, (AV.v (Value.int IntKind.u8 ((((W.tri (W.tAt l (Prod.snd s)) 0) % 8) : Nat) : Int)))), (52, (AV.v (Value.bool false))), (61, (AV.v (Value.bool false))), (70, (AV.v (Value.bool false)))] [(4, (Blk.c (W.netA false false (W.doneN (W.toN (W.netA false false (Prod.fst s))) (((((W.tri (W.tAt l (Prod.snd s)) 0) % 8) : Nat) : Int) - (4 : Int)) (((((W.tri (W.tAt l (Prod.snd s)) 1) % 5) : Nat) : Int), ((((W.tri (W.tAt l (Prod.snd s)) 2) % 5) : Nat) : Int)))))), (5, (Blk.c (W.netA false false (Prod.fst s)))), (7, (Blk.c (W.triA (W.tAt l (Prod.snd s)))))] [7, 4, 5]) S2 ∧ Holds W.C W.P 117 [] K (RoundQ C 117 [] K (I_ls ex l) (fun s => VN s.1 ∧ s.2 ≤ l.length ∧ s.2 ≤ 30) (fun s => 30 - s.2) ((fun s => 30 - s.2) (s)) (rest_nls_0 K Φ)) (cutAt W.C w_nls bd_nls_0 [1, 0, 0, 1, 1, 1, 0] S2 (after W.C w_nls bd_nls_0 [1, 0, 0, 1, 1, 1, 0] [] lf)))))))))))))))))))))))))))))))) ∧
  ((decide ((((Prod.snd s) : Nat) : Int) < (30 : Int))) = false →
  (Φ Ex.ret (St.mk [(0, (W.dTri ex l)), (2, (AV.sb true)), (3, (AV.sb true)), (4, (AV.ptr 4 [])), (5, (AV.ptr 5 [])), (6, (AV.i (((Prod.snd s) : Nat) : Int))), (21, (AV.v (Value.bool false)))] [(4, (Blk.c (W.netA false false (Prod.fst s)))), (5, (Blk.c (W.netA false false (Prod.fst s))))] [4, 5]))))) ∧
 ((decide ((((Prod.snd s) : Nat) : Int) < (((List.length l) : Nat) : Int))) = false →
 (Φ Ex.ret (St.mk [(0, (W.dTri ex l)), (2, (AV.sb true)), (3, (AV.sb true)), (4, (AV.ptr 4 [])), (5, (AV.ptr 5 [])), (6, (AV.i (((Prod.snd s) : Nat) : Int))), (21, (AV.v (Value.bool false)))] [(4, (Blk.c (W.netA false false (Prod.fst s)))), (5, (Blk.c (W.netA false false (Prod.fst s))))] [4, 5])))) := by kernel_rfl
theorem nls_C19 (ex : Bool) (l : List Tri) (i : Nat) (x : Tri) (m m2 : Net) (K : Nat) (Φ : Ex → St → Prop) :
  (Holds C P 117 [] K Φ (cutAt C w_nls bd_nls_0 [1, 0, 0, 1, 1, 1, 0] (S_ls19 ex l i x m m2) (after C w_nls bd_nls_0 [1, 0, 0, 1, 1, 1, 0] [] lf))) =
  (Fun W.C W.P 28 [(W.netA false false m), (W.triA x)] [] (W.netA false false (W.stepN (W.toN (W.netA false false m)) ((Int.toNat (((W.tri x 0) : Nat) : Int)), ((Int.toNat (((W.tri x 1) : Nat) : Int)), (Int.toNat (((W.tri x 2) : Nat) : Int)))))) [] ∧
 ((W.ShK) ∧
 (Fun W.C W.P 27 [(W.netA false false m2)] [] (AV.sb (W.vB (W.toN (W.netA false false m2)))) [] ∧
 (True ∧
 (((! (W.vB (W.toN (W.netA false false m2)))) = true →
 (Φ Ex.ret (St.mk [(0, (W.dTri ex l)), (2, (AV.v (Value.bool false))), (3, (AV.sb true)), (4, (AV.ptr 4 [])), (5, (AV.ptr 5 [])), (6, (AV.i ((i : Nat) : Int))), (7, (AV.ptr 7 [])), (8, (AV.i (W.Net.next m))), (115, (AV.v (Value.bool true)))] [(4, (Blk.c (W.netA false false m2))), (5, (Blk.c (W.netA false false (W.stepN (W.toN (W.netA false false m)) ((Int.toNat (((W.tri x 0) : Nat) : Int)), ((Int.toNat (((W.tri x 1) : Nat) : Int)), (Int.toNat (((W.tri x 2) : Nat) : Int)))))))), (7, (Blk.c (W.triA x)))] [4, 5, 7]))) ∧
 ((! (W.vB (W.toN (W.netA false false m2)))) = false →
 (Fun W.C W.P 26 [(W.netA false false m2)] [] (AV.sb (W.vB (W.toN (W.netA false false m2)))) [] ∧
  (True ∧
  (((! (W.vB (W.toN (W.netA false false m2)))) = true →
  (Φ Ex.ret (St.mk [(0, (W.dTri ex l)), (2, (AV.v (Value.bool false))), (3, (AV.sb true)), (4, (AV.ptr 4 [])), (5, (AV.ptr 5 [])), (6, (AV.i ((i : Nat) : Int))), (7, (AV.ptr 7 [])), (8, (AV.i (W.Net.next m))), (115, (AV.v (Value.bool true)))] [(4, (Blk.c (W.netA false false m2))), (5, (Blk.c (W.netA false false (W.stepN (W.toN (W.netA false false m)) ((Int.toNat (((W.tri x 0) : Nat) : Int)), ((Int.toNat (((W.tri x 1) : Nat) : Int)), (Int.toNat (((W.tri x 2) : Nat) : Int)))))))), (7, (Blk.c (W.triA x)))] [4, 5, 7]))) ∧
  ((! (W.vB (W.toN (W.netA false false m2)))) = false →
  (Fun W.C W.P 15 [(W.netA false false m2), (W.netA false false (W.stepN (W.toN (W.netA false false m)) ((Int.toNat (((W.tri x 0) : Nat) : Int)), ((Int.toNat (((W.tri x 1) : Nat) : Int)), (Int.toNat (((W.tri x 2) : Nat) : Int))))))] [] (AV.sb (W.sameB (W.toN (W.netA false false m2)) (W.toN (W.netA false false (W.stepN (W.toN (W.netA false false m)) ((Int.toNat (((W.tri x 0) : Nat) : Int)), ((Int.toNat (((W.tri x 1) : Nat) : Int)), (Int.toNat (((W.tri x 2) : Nat) : Int))))))))) [] ∧
   (True ∧
   (((! (W.sameB (W.toN (W.netA false false m2)) (W.toN (W.netA false false (W.stepN (W.toN (W.netA false false m)) ((Int.toNat (((W.tri x 0) : Nat) : Int)), ((Int.toNat (((W.tri x 1) : Nat) : Int)), (Int.toNat (((W.tri x 2) : Nat) : Int))))))))) = true →
   (Φ Ex.ret (St.mk [(0, (W.dTri ex l)), (2, (AV.v (Value.bool false))), (3, (AV.sb true)), (4, (AV.ptr 4 [])), (5, (AV.ptr 5 [])), (6, (AV.i ((i : Nat) : Int))), (7, (AV.ptr 7 [])), (8, (AV.i (W.Net.next m))), (115, (AV.v (Value.bool true)))] [(4, (Blk.c (W.netA false false m2))), (5, (Blk.c (W.netA false false (W.stepN (W.toN (W.netA false false m)) ((Int.toNat (((W.tri x 0) : Nat) : Int)), ((Int.toNat (((W.tri x 1) : Nat) : Int)), (Int.toNat (((W.tri x 2) : Nat) : Int)))))))), (7, (Blk.c (W.triA x)))] [4, 5, 7]))) ∧
   ((! (W.sameB (W.toN (W.netA false false m2)) (W.toN (W.netA false false (W.stepN (W.toN (W.netA false false m)) ((Int.toNat (((W.tri x 0) : Nat) : Int)), ((Int.toNat (((W.tri x 1) : Nat) : Int)), (Int.toNat (((W.tri x 2) : Nat) : Int))))))))) = false →
   (((decide ((W.Net.next m2) < (W.Net.next m))) = true →
    (Φ Ex.ret (St.mk [(0, (W.dTri ex l)), (2, (AV.v (Value.bool false))), (3, (AV.sb true)), (4, (AV.ptr 4 [])), (5, (AV.ptr 5 [])), (6, (AV.i ((i : Nat) : Int))), (7, (AV.ptr 7 [])), (8, (AV.i (W.Net.next m))), (115, (AV.v (Value.bool true)))] [(4, (Blk.c (W.netA false false m2))), (5, (Blk.c (W.netA false false (W.stepN (W.toN (W.netA false false m)) ((Int.toNat (((W.tri x 0) : Nat) : Int)), ((Int.toNat (((W.tri x 1) : Nat) : Int)), (Int.toNat (((W.tri x 2) : Nat) : Int)))))))), (7, (Blk.c (W.triA x)))] [4, 5, 7]))) ∧
    ((decide ((W.Net.next m2) < (W.Net.next m))) = false →
    ((I64 ((W.Net.next m) + (1 : Int))) ∧
     (((decide ((W.Net.next m2) > ((W.Net.next m) + (1 : Int)))) = true →
     (Φ Ex.ret (St.mk [(0, (W.dTri ex l)), (2, (AV.v (Value.bool false))), (3, (AV.sb true)), (4, (AV.ptr 4 [])), (5, (AV.ptr 5 [])), (6, (AV.i ((i : Nat) : Int))), (7, (AV.ptr 7 [])), (8, (AV.i (W.Net.next m))), (115, (AV.v (Value.bool true)))] [(4, (Blk.c (W.netA false false m2))), (5, (Blk.c (W.netA false false (W.stepN (W.toN (W.netA false false m)) ((Int.toNat (((W.tri x 0) : Nat) : Int)), ((Int.toNat (((W.tri x 1) : Nat) : Int)), (Int.toNat (((W.tri x 2) : Nat) : Int)))))))), (7, (Blk.c (W.triA x)))] [4, 5, 7]))) ∧
     ((decide ((W.Net.next m2) > ((W.Net.next m) + (1 : Int)))) = false →
     ((I64 (((i + 1) : Nat) : Int)) ∧
      (Φ Ex.normal (St.mk [(0, (W.dTri ex l)), (3, (AV.sb true)), (4, (AV.ptr 4 [])), (5, (AV.ptr 5 [])), (6, (AV.i (((i + 1) : Nat) : Int))), (7, (AV.ptr 7 [])), (8, (AV.i (W.Net.next m))), (115, (AV.v (Value.bool false)))] [(4, (Blk.c (W.netA false false m2))), (5, (Blk.c (W.netA false false (W.stepN (W.toN (W.netA false false m)) ((Int.toNat (((W.tri x 0) : Nat) : Int)), ((Int.toNat (((W.tri x 1) : Nat) : Int)), (Int.toNat (((W.tri x 2) : Nat) : Int)))))))), (7, (Blk.c (W.triA x)))] [4, 5, 7])))))))))))))))))))))) := by kernel_rfl
theorem add_next (n : Net) (a b : Int) : (addN n a b).next = n.next ∨ (addN n a b).next = n.next + 1 := by
  unfold addN; split
  · exact .inr rfl
  · exact .inl rfl
theorem step_next (n : Net) (x : Tri) : (stepN n x).next = n.next ∨ (stepN n x).next = n.next + 1 := by
  have hs : ∀ a b, (sendN n a b).next = n.next ∨ (sendN n a b).next = n.next + 1 := fun a b => by
    unfold sendN; split
    · exact add_next n a b
    · exact .inl rfl
  have hl : ∀ id, (loseN n id).next = n.next := fun id => by unfold loseN; split <;> rfl
  have ht : ∀ id, (takeN n id).next = n.next := fun id => by unfold takeN; split; exact hl id; rfl
  have hd : ∀ id, (dblN n id).next = n.next ∨ (dblN n id).next = n.next + 1 := fun id => by
    unfold dblN; split
    · exact add_next n _ _
    · exact .inl rfl
  have hv : ∀ a b, (sevN n a b).next = n.next := fun a b => by unfold sevN; split <;> rfl
  have hh : ∀ a b, (healN n a b).next = n.next := fun a b => by unfold healN; split <;> rfl
  unfold stepN
  split
  · exact hs _ _
  · split
    · exact .inl (ht _)
    · split
      · exact .inl (hl _)
      · split
        · exact hd _
        · split
          · exact .inl (hv _ _)
          · exact .inl (hh _ _)
theorem step_done1 {n : Net} {x : Tri} (h : x.1 % 8 = 4 ∨ x.1 % 8 = 5) : doneN n (((x.1 % 8 : Nat) : Int) - 4) (((x.2.1 % 16 : Nat) : Int), 0) = stepN n x := by
  unfold doneN stepN
  rcases h with h | h
  · rw [h, if_pos (by decide), if_neg (by decide), if_neg (by decide), if_pos rfl]
  · rw [h, if_neg (by decide), if_pos (by decide), if_neg (by decide), if_neg (by decide), if_neg (by decide), if_pos rfl]
theorem step_done2 {n : Net} {x : Tri} (h : x.1 % 8 = 6 ∨ x.1 % 8 = 7) : doneN n (((x.1 % 8 : Nat) : Int) - 4) (((x.2.1 % 5 : Nat) : Int), ((x.2.2 % 5 : Nat) : Int)) = stepN n x := by
  unfold doneN stepN
  rcases h with h | h
  · rw [h, if_neg (by decide), if_neg (by decide), if_pos (by decide), if_neg (by decide), if_neg (by decide), if_neg (by decide), if_neg (by decide), if_pos rfl]
  · rw [h, if_neg (by decide), if_neg (by decide), if_neg (by decide), if_neg (by decide), if_neg (by decide), if_neg (by decide), if_neg (by decide), if_neg (by decide)]
theorem same_self (n : Net) : sameB n n = true := by simp [sameB]
theorem en8 (x k : Nat) : (((x % 8 : Nat) : Int) == (k : Int)) = decide (x % 8 = k) := by
  rw [beq_dec]; exact decide_eq_decide.2 (by omega)
theorem nls_fun (ex : Bool) (l : List Tri) : Fun C P F_nls [dTri ex l] [] (.sb true) [] := by
  refine in_nls (W := w_nls) rfl 0 (by simp) rfl (fun id h => absurd rfl h) ?_
  refine of_eq (nls_A ex l 0 _) ⟨sanity_fun, trivial, by simp, by simp, ?_⟩
  refine loop_inv (W := w_nls) ctx mixed ok_nls_0 (I_ls ex l) (fun s => VN s.1 ∧ s.2 ≤ l.length ∧ s.2 ≤ 30) (fun s => 30 - s.2) (net0, 0) ⟨.zero 1 (by decide) (by decide), Nat.zero_le _, Nat.zero_le _⟩ ?_ fun s hs => ?_
  · refine ent_of [(4, 4), (5, 5)] rfl (tm_cons rfl (sm_same rfl) (tm_cons rfl (sm_same rfl) (tm_cons rfl (sm_ptr rfl) (tm_cons rfl (sm_ptr rfl) (tm_cons rfl (sm_same rfl) tm_nil))))) (hp_cons rfl rfl (sm_st ⟨.inr ⟨rfl, by simp, .inl rfl, fun i hi => absurd hi (Nat.not_lt_zero i)⟩, .inr ⟨rfl, by simp, .inl rfl, fun i hi => absurd hi (Nat.not_lt_zero i)⟩, sm_int rfl, trivial⟩) (hp_cons rfl rfl (sm_st ⟨.inr ⟨rfl, by simp, .inl rfl, fun i hi => absurd hi (Nat.not_lt_zero i)⟩, .inr ⟨rfl, by simp, .inl rfl, fun i hi => absurd hi (Nat.not_lt_zero i)⟩, sm_int rfl, trivial⟩) hp_nil))
  obtain ⟨m, i⟩ := s
  obtain ⟨hv, hi, h30⟩ := hs
  dsimp only at hv hi h30
  obtain ⟨x, hx⟩ : ∃ x, x = tAt l i := ⟨_, rfl⟩
  have e0 : toN (netD m) = m := toN_net false false m
  have e1 : toN (netD (stepN m x)) = stepN m x := toN_net false false _
  have e2 : ((((tri x 0 : Nat) : Int).toNat, ((tri x 1 : Nat) : Int).toNat, ((tri x 2 : Nat) : Int).toNat) : Tri) = x := toTri_A _
  have hm := hv.step x
  have hn := step_next m x
  have hv2 := hv.2.2.2.2.2.2
  have key : i < l.length → i < 30 → Holds C P 117 [] 0 (RoundQ C 117 [] 0 (I_ls ex l) (fun s => VN s.1 ∧ s.2 ≤ l.length ∧ s.2 ≤ 30) (fun s => 30 - s.2) (30 - i) (rest_nls_0 0 (FunPost C 117 0 [.tmp 2] (.sb true) []))) (cutAt C w_nls bd_nls_0 [1, 0, 0, 1, 1, 1, 0] (S_ls19 ex l i x m (stepN m x)) (after C w_nls bd_nls_0 [1, 0, 0, 1, 1, 1, 0] [] lf)) := fun g1 g2 => by
    refine of_eq (nls_C19 ex l i x m (stepN m x) 0 _) ?_
    rw [e0, e2, e1]
    refine ⟨step_fun hv x, by simp, rvalid_ok hm, trivial, fun q => (nt_no (valid_ok hm) q).elim, fun _ => ⟨valid_ok_fun hm, trivial, fun q => (nt_no (valid_ok hm) q).elim, fun _ => ⟨same_ok hm, trivial, fun q => (nt_no (same_self _) q).elim, fun _ => ⟨fun q => ?_, fun _ => ⟨(by first | omega | decide | (unfold I64; omega)), fun q => ?_, fun _ => ⟨(by first | omega | decide | (unfold I64; omega)), round_end (stepN m x, i + 1) ⟨hm, by dsimp only; omega, by dsimp only; omega⟩ (ent_of [(4, 4), (5, 5)] rfl (tm_cons rfl (sm_same rfl) (tm_cons rfl (sm_same rfl) (tm_cons rfl (sm_ptr rfl) (tm_cons rfl (sm_ptr rfl) (tm_cons rfl (sm_same rfl) tm_nil))))) (hp_cons rfl rfl (sm_same rfl) (hp_cons rfl rfl (sm_same rfl) hp_nil))) (by dsimp only; omega)⟩⟩⟩⟩⟩⟩
    · have := of_decide_eq_true q; omega
    · have := of_decide_eq_true q; omega
  refine of_eq (nls_L0 ex l (m, i) 0 _) ?_
  dsimp only
  rw [e0, ← hx]
  have t0 : tri x 0 = x.1 := rfl
  have t1 : tri x 1 = x.2.1 := rfl
  have t2 : tri x 2 = x.2.2 := rfl
  rw [t0, t1, t2]
  have en0 : (((x.1 % 8 : Nat) : Int) == 0) = decide (x.1 % 8 = 0) := en8 _ 0
  have en1 : (((x.1 % 8 : Nat) : Int) == 1) = decide (x.1 % 8 = 1) := en8 _ 1
  have en2 : (((x.1 % 8 : Nat) : Int) == 2) = decide (x.1 % 8 = 2) := en8 _ 2
  have en3 : (((x.1 % 8 : Nat) : Int) == 3) = decide (x.1 % 8 = 3) := en8 _ 3
  have en4 : (((x.1 % 8 : Nat) : Int) == 4) = decide (x.1 % 8 = 4) := en8 _ 4
  have en5 : (((x.1 % 8 : Nat) : Int) == 5) = decide (x.1 % 8 = 5) := en8 _ 5
  rw [en0, en1, en2, en3, en4, en5]
  refine ⟨fun g1 => ⟨fun g2 => ?_, fun _ => post_tmp rfl (sm_sb rfl)⟩, fun _ => post_tmp rfl (sm_sb rfl)⟩
  have g1 := of_decide_eq_true g1
  have g2 := of_decide_eq_true g2
  have key := key (by omega) (by omega)
  refine ⟨(by first | omega | decide | (unfold I64; omega)), by simp, (by first | omega | decide | (unfold I64; omega)), (by first | omega | decide | (unfold I64; omega)), (by first | omega | decide | (unfold I64; omega)), (by first | omega | decide | (unfold I64; omega)), (by first | omega | decide | (unfold I64; omega)), (by first | omega | decide | (unfold I64; omega)), (by first | omega | decide | (unfold I64; omega)), (by first | omega | decide | (unfold I64; omega)), fun h0 => ?_, fun h0 => ⟨fun h1 => ?_, fun h1 => ⟨fun h2 => ?_, fun h2 => ⟨fun h3 => ?_, fun h3 => ⟨fun h4 => ?_, fun h4 => ⟨fun h5 => ?_, fun h5 => ?_⟩⟩⟩⟩⟩⟩
  · have h0 := of_decide_eq_true h0
    have e : stepN m x = sendN m (x.2.1 % 5 : Nat) (x.2.2 % 5 : Nat) := by unfold stepN; rw [if_pos (by omega)]
    exact ⟨sent_fun hv _ _, by simp, cut_ok (S2 := S_ls19 ex l i x m (stepN m x)) (ent_of [(4, 4), (5, 5), (7, 7)] rfl (tm_cons rfl (sm_same rfl) (tm_cons rfl (sm_same rfl) (tm_cons rfl (sm_ptr rfl) (tm_cons rfl (sm_ptr rfl) (tm_cons rfl (sm_same rfl) (tm_cons rfl (sm_ptr rfl) (tm_cons rfl (sm_same rfl) tm_nil))))))) (hp_cons rfl rfl (sm_eq rfl (by rw [e])) (hp_cons rfl rfl (sm_same rfl) (hp_cons rfl rfl (sm_same rfl) hp_nil)))) key⟩
  · have h1 := of_decide_eq_true h1
    have e : stepN m x = sendN m (x.2.1 % 5 : Nat) (x.2.2 % 5 : Nat) := by unfold stepN; rw [if_pos (by omega)]
    exact ⟨sent_fun hv _ _, by simp, cut_ok (S2 := S_ls19 ex l i x m (stepN m x)) (ent_of [(4, 4), (5, 5), (7, 7)] rfl (tm_cons rfl (sm_same rfl) (tm_cons rfl (sm_same rfl) (tm_cons rfl (sm_ptr rfl) (tm_cons rfl (sm_ptr rfl) (tm_cons rfl (sm_same rfl) (tm_cons rfl (sm_ptr rfl) (tm_cons rfl (sm_same rfl) tm_nil))))))) (hp_cons rfl rfl (sm_eq rfl (by rw [e])) (hp_cons rfl rfl (sm_same rfl) (hp_cons rfl rfl (sm_same rfl) hp_nil)))) key⟩
  · have h2 := of_decide_eq_true h2
    have e : stepN m x = sendN m (x.2.1 % 5 : Nat) (x.2.2 % 5 : Nat) := by unfold stepN; rw [if_pos (by omega)]
    exact ⟨sent_fun hv _ _, by simp, cut_ok (S2 := S_ls19 ex l i x m (stepN m x)) (ent_of [(4, 4), (5, 5), (7, 7)] rfl (tm_cons rfl (sm_same rfl) (tm_cons rfl (sm_same rfl) (tm_cons rfl (sm_ptr rfl) (tm_cons rfl (sm_ptr rfl) (tm_cons rfl (sm_same rfl) (tm_cons rfl (sm_ptr rfl) (tm_cons rfl (sm_same rfl) tm_nil))))))) (hp_cons rfl rfl (sm_eq rfl (by rw [e])) (hp_cons rfl rfl (sm_same rfl) (hp_cons rfl rfl (sm_same rfl) hp_nil)))) key⟩
  · have h3 := of_decide_eq_true h3
    have e : stepN m x = takeN m (x.2.1 % 16 : Nat) := by unfold stepN; rw [if_neg (by omega), if_pos h3]
    exact ⟨(by first | omega | decide | (unfold I64; omega)), (by first | omega | decide | (unfold I64; omega)), (by first | omega | decide | (unfold I64; omega)), taken_fun hv _, by simp, cut_ok (S2 := S_ls19 ex l i x m (stepN m x)) (ent_of [(4, 4), (5, 5), (7, 7)] rfl (tm_cons rfl (sm_same rfl) (tm_cons rfl (sm_same rfl) (tm_cons rfl (sm_ptr rfl) (tm_cons rfl (sm_ptr rfl) (tm_cons rfl (sm_same rfl) (tm_cons rfl (sm_ptr rfl) (tm_cons rfl (sm_same rfl) tm_nil))))))) (hp_cons rfl rfl (sm_eq rfl (by rw [e])) (hp_cons rfl rfl (sm_same rfl) (hp_cons rfl rfl (sm_same rfl) hp_nil)))) key⟩
  · have h4 := of_decide_eq_true h4
    have e := step_done1 (n := m) (x := x) (.inl h4)
    exact ⟨(by first | omega | decide | (unfold I64; omega)), (by first | omega | decide | (unfold I64; omega)), (by first | omega | decide | (unfold I64; omega)), (by first | omega | decide | (unfold I64; omega)), (by first | omega | decide | (unfold I64; omega)), (by first | omega | decide | (unfold I64; omega)), (by first | omega | decide | (unfold I64; omega)), done_pair hv _ _ _, by simp, cut_ok (S2 := S_ls19 ex l i x m (stepN m x)) (ent_of [(4, 4), (5, 5), (7, 7)] rfl (tm_cons rfl (sm_same rfl) (tm_cons rfl (sm_same rfl) (tm_cons rfl (sm_ptr rfl) (tm_cons rfl (sm_ptr rfl) (tm_cons rfl (sm_same rfl) (tm_cons rfl (sm_ptr rfl) (tm_cons rfl (sm_same rfl) tm_nil))))))) (hp_cons rfl rfl (sm_eq rfl (by rw [← e])) (hp_cons rfl rfl (sm_same rfl) (hp_cons rfl rfl (sm_same rfl) hp_nil)))) key⟩
  · have h5 := of_decide_eq_true h5
    have e := step_done1 (n := m) (x := x) (.inr h5)
    exact ⟨(by first | omega | decide | (unfold I64; omega)), (by first | omega | decide | (unfold I64; omega)), (by first | omega | decide | (unfold I64; omega)), (by first | omega | decide | (unfold I64; omega)), (by first | omega | decide | (unfold I64; omega)), (by first | omega | decide | (unfold I64; omega)), (by first | omega | decide | (unfold I64; omega)), done_pair hv _ _ _, by simp, cut_ok (S2 := S_ls19 ex l i x m (stepN m x)) (ent_of [(4, 4), (5, 5), (7, 7)] rfl (tm_cons rfl (sm_same rfl) (tm_cons rfl (sm_same rfl) (tm_cons rfl (sm_ptr rfl) (tm_cons rfl (sm_ptr rfl) (tm_cons rfl (sm_same rfl) (tm_cons rfl (sm_ptr rfl) (tm_cons rfl (sm_same rfl) tm_nil))))))) (hp_cons rfl rfl (sm_eq rfl (by rw [← e])) (hp_cons rfl rfl (sm_same rfl) (hp_cons rfl rfl (sm_same rfl) hp_nil)))) key⟩
  · have h0 := of_decide_eq_false h0
    have h1 := of_decide_eq_false h1
    have h2 := of_decide_eq_false h2
    have h3 := of_decide_eq_false h3
    have h4 := of_decide_eq_false h4
    have h5 := of_decide_eq_false h5
    have e := step_done2 (n := m) (x := x) (by omega)
    exact ⟨(by first | omega | decide | (unfold I64; omega)), (by first | omega | decide | (unfold I64; omega)), (by first | omega | decide | (unfold I64; omega)), (by first | omega | decide | (unfold I64; omega)), done_pair hv _ _ _, by simp, cut_ok (S2 := S_ls19 ex l i x m (stepN m x)) (ent_of [(4, 4), (5, 5), (7, 7)] rfl (tm_cons rfl (sm_same rfl) (tm_cons rfl (sm_same rfl) (tm_cons rfl (sm_ptr rfl) (tm_cons rfl (sm_ptr rfl) (tm_cons rfl (sm_same rfl) (tm_cons rfl (sm_ptr rfl) (tm_cons rfl (sm_same rfl) tm_nil))))))) (hp_cons rfl rfl (sm_eq rfl (by rw [← e])) (hp_cons rfl rfl (sm_same rfl) (hp_cons rfl rfl (sm_same rfl) hp_nil)))) key⟩
theorem nls_law {x0 : AV} (h0 : Typed C.tt 6 22 x0) : Fun C P F_nls [x0] [] (.sb true) [] := by
  obtain ⟨l, ex, hl, _, s0⟩ := typed_tris h0
  exact (nls_fun ex l).sim ⟨s0, trivial⟩ trivial
end Go.Bu.W

