/- NetDoubles. -/
import Derived.Test.YtjfggjlbnmdceaaKNQ
namespace Go.Bu.W
def wayLd (keep : List Nat) (nt : Nat) (cuts : List Nat) : Way := ⟨crN9, byrefI, keep, [], nt, cuts⟩
def w_nld : Way := wayLd [0, 1, 2, 6, 7, 8, 9, 10, 11, 12, 13, 14, 37, 47, 78, 85, 113] 130 [3,4]
abbrev dB (ex : Bool) (b : List Nat) : AV := .dat b.length ex 1 (rowL b)
def S_ld3 (ex : Bool) (b : List Nat) (f t : Nat) (n : Net) : St := { tm := [(0, u8 f), (1, u8 t), (2, dB ex b), (7, .sb true), (8, .ptr 8 []), (9, i64 1)], hp := [(8, .c (netD n))], seen := [8] }
def S_ld4 (ex : Bool) (b : List Nat) (f t : Nat) (n : Net) (a : Net × Int × Int) : St := { tm := [(0, u8 f), (1, u8 t), (2, dB ex b), (7, .sb true), (8, .ptr 8 []), (9, i64 1), (10, .ptr 10 [])], hp := [(8, .c (netD n)), (10, .c (sS a))], seen := [8, 10] }
/-- A packet of these; c copies, of which the first i were taken. -/
def ldP (f t k : Nat) : Pk := (((5 + k : Nat) : Int), ((f : Nat) : Int), ((300 + t : Nat) : Int))
def ldN (f t : Nat) (c i : Nat) : Net := ⟨((List.range c).map (ldP f t)).drop i, [], ((5 + c : Nat) : Int)⟩
def I_ld0 (ex : Bool) (b : List Nat) (f t : Nat) (s : Net × Nat) : St := { tm := [(0, u8 f), (1, u8 t), (2, dB ex b), (7, .sb true), (8, .ptr 8 []), (9, i64 (s.2 + 1)), (11, i64 s.2)], hp := [(8, .c (netD s.1))], seen := [8] }
def I_ld1 (f t c : Nat) (s : Net × Nat) : St := { tm := [(0, u8 f), (1, u8 t), (7, .sb true), (8, .ptr 8 []), (9, i64 c), (13, i64 s.2)], hp := [(8, .c (netD s.1))], seen := [8] }

theorem nld_A (ex : Bool) (b : List Nat) (f t : Nat) (K : Nat) (Φ : Ex → St → Prop) :
  (Holds C P 130 [] K Φ (vc C w_nld b_nld [] (start [u8 f, u8 t, dB ex b] []) lf)) =
  (Fun W.C W.P 11 [] [] (AV.sb true) [] ∧
 (True ∧
 ((W.ShK) ∧
 (∃ (S2 : St), Ent W.C 130 [] K (St.mk [(0, (AV.v (Value.int IntKind.u8 ((f : Nat) : Int)))), (1, (AV.v (Value.int IntKind.u8 ((t : Nat) : Int)))), (2, (AV.dat (List.length b) ex 1 (rowL b))), (6, (AV.v (Value.bool false))), (7, (AV.sb true)), (8, (AV.ptr 8 [])), (9, (AV.i (1 : Int)))] [(8, (Blk.c (AV.st [(AV.dat 0 true 0 (fun (x : Nat) => (AV.v (Value.tuple (List.toArray []))))), (AV.dat 0 true 0 (fun (x : Nat) => (AV.v (Value.tuple (List.toArray []))))), (AV.i (5 : Int))])))] [8]) S2 ∧ Holds W.C W.P 130 [] K Φ (cutAt W.C w_nld b_nld [1, 1, 1, 0] S2 (after W.C w_nld b_nld [1, 1, 1, 0] [] lf)))))) := by kernel_rfl
theorem nld_C3 (ex : Bool) (b : List Nat) (f t : Nat) (n : Net) (K : Nat) (Φ : Ex → St → Prop) :
  (Holds C P 130 [] K Φ (cutAt C w_nld b_nld [1, 1, 1, 0] (S_ld3 ex b f t n) (after C w_nld b_nld [1, 1, 1, 0] [] lf))) =
  ((I64 ((f : Nat) : Int)) ∧
 ((I64 ((t : Nat) : Int)) ∧
 ((I64 (((300 + t) : Nat) : Int)) ∧
 (Fun W.C W.P 13 [(W.netA false false n), (AV.i ((f : Nat) : Int)), (AV.i (((300 + t) : Nat) : Int))] [] (AV.st [(W.netA false false (W.sendN (W.toN (W.netA false false n)) ((f : Nat) : Int) (((300 + t) : Nat) : Int))), (AV.i (W.sendI (W.toN (W.netA false false n)) ((f : Nat) : Int) (((300 + t) : Nat) : Int))), (AV.i (W.sendE (W.toN (W.netA false false n)) ((f : Nat) : Int) (((300 + t) : Nat) : Int)))]) [] ∧
 (((W.ShK) ∧ (((true = true) ∧ (true = true)) ∧ (((true = true) ∧ (true = true)) ∧ True))) ∧
 (∃ (S2 : St), Ent W.C 130 [] K (St.mk [(0, (AV.v (Value.int IntKind.u8 ((f : Nat) : Int)))), (1, (AV.v (Value.int IntKind.u8 ((t : Nat) : Int)))), (2, (AV.dat (List.length b) ex 1 (rowL b))), (7, (AV.sb true)), (8, (AV.ptr 8 [])), (9, (AV.i (1 : Int))), (10, (AV.ptr 10 []))] [(8, (Blk.c (W.netA false false n))), (10, (Blk.c (AV.st [(W.netA false false (W.sendN (W.toN (W.netA false false n)) ((f : Nat) : Int) (((300 + t) : Nat) : Int))), (AV.i (W.sendI (W.toN (W.netA false false n)) ((f : Nat) : Int) (((300 + t) : Nat) : Int))), (AV.i (W.sendE (W.toN (W.netA false false n)) ((f : Nat) : Int) (((300 + t) : Nat) : Int)))])))] [10, 8]) S2 ∧ Holds W.C W.P 130 [] K Φ (cutAt W.C w_nld b_nld [1, 1, 1, 1, 0, 0] S2 (after W.C w_nld b_nld [1, 1, 1, 1, 0, 0] [] lf)))))))) := by kernel_rfl
theorem nld_C4 (ex : Bool) (b : List Nat) (f t : Nat) (n : Net) (a : Net × Int × Int) (K : Nat) (Φ : Ex → St → Prop) :
  (Holds C P 130 [] K Φ (cutAt C w_nld b_nld [1, 1, 1, 1, 0, 0] (S_ld4 ex b f t n a) (after C w_nld b_nld [1, 1, 1, 1, 0, 0] [] lf))) =
  ((((Prod.snd (Prod.snd a)) != (0 : Int)) = true →
 (Φ Ex.ret (St.mk [(0, (AV.v (Value.int IntKind.u8 ((f : Nat) : Int)))), (1, (AV.v (Value.int IntKind.u8 ((t : Nat) : Int)))), (2, (AV.dat (List.length b) ex 1 (rowL b))), (6, (AV.v (Value.bool false))), (7, (AV.sb true)), (8, (AV.ptr 8 [])), (9, (AV.i (1 : Int))), (10, (AV.ptr 10 [])), (37, (AV.v (Value.bool true)))] [(8, (Blk.c (W.netA false false n))), (10, (Blk.c (AV.st [(W.netA false false (Prod.fst a)), (AV.i (Prod.fst (Prod.snd a))), (AV.i (Prod.snd (Prod.snd a)))])))] [8, 10]))) ∧
 (((Prod.snd (Prod.snd a)) != (0 : Int)) = false →
 ((((Prod.fst (Prod.snd a)) != (5 : Int)) = true →
  (Φ Ex.ret (St.mk [(0, (AV.v (Value.int IntKind.u8 ((f : Nat) : Int)))), (1, (AV.v (Value.int IntKind.u8 ((t : Nat) : Int)))), (2, (AV.dat (List.length b) ex 1 (rowL b))), (6, (AV.v (Value.bool false))), (7, (AV.sb true)), (8, (AV.ptr 8 [])), (9, (AV.i (1 : Int))), (10, (AV.ptr 10 [])), (37, (AV.v (Value.bool true)))] [(8, (Blk.c (W.netA false false n))), (10, (Blk.c (AV.st [(W.netA false false (Prod.fst a)), (AV.i (Prod.fst (Prod.snd a))), (AV.i (Prod.snd (Prod.snd a)))])))] [8, 10]))) ∧
  (((Prod.fst (Prod.snd a)) != (5 : Int)) = false →
  (Fun W.C W.P 27 [(W.netA false false (Prod.fst a))] [] (AV.sb (W.vB (W.toN (W.netA false false (Prod.fst a))))) [] ∧
   (True ∧
   (((! (W.vB (W.toN (W.netA false false (Prod.fst a))))) = true →
   (Φ Ex.ret (St.mk [(0, (AV.v (Value.int IntKind.u8 ((f : Nat) : Int)))), (1, (AV.v (Value.int IntKind.u8 ((t : Nat) : Int)))), (2, (AV.dat (List.length b) ex 1 (rowL b))), (6, (AV.v (Value.bool false))), (7, (AV.sb true)), (8, (AV.ptr 8 [])), (9, (AV.i (1 : Int))), (10, (AV.ptr 10 [])), (37, (AV.v (Value.bool true)))] [(8, (Blk.c (W.netA false false n))), (10, (Blk.c (AV.st [(W.netA false false (Prod.fst a)), (AV.i (Prod.fst (Prod.snd a))), (AV.i (Prod.snd (Prod.snd a)))])))] [8, 10]))) ∧
   ((! (W.vB (W.toN (W.netA false false (Prod.fst a))))) = false →
   ((W.ShK) ∧
    (LoopOK W.C W.P 130 [] K (bodyAt b_nld [1, 1, 1, 1, 1, 1, 0, 1, 0]) (St.mk [(0, (AV.v (Value.int IntKind.u8 ((f : Nat) : Int)))), (1, (AV.v (Value.int IntKind.u8 ((t : Nat) : Int)))), (2, (AV.dat (List.length b) ex 1 (rowL b))), (7, (AV.sb true)), (8, (AV.ptr 8 [])), (9, (AV.i (1 : Int))), (10, (AV.ptr 10 [])), (11, (AV.i (0 : Int))), (37, (AV.v (Value.bool false)))] [(8, (Blk.c (W.netA false false (Prod.fst a)))), (10, (Blk.c (AV.st [(W.netA false false (Prod.fst a)), (AV.i (Prod.fst (Prod.snd a))), (AV.i (Prod.snd (Prod.snd a)))])))] [8, 10]) (fun (e : Ex) (S' : St) => Holds W.C W.P 130 [] K Φ (after W.C w_nld b_nld [1, 1, 1, 1, 1, 1, 0, 1, 0] [] lf e S')))))))))))) := by kernel_rfl
noncomputable abbrev bd_nld_0 : Code := bodyAt (b_nld) [1, 1, 1, 1, 1, 1, 0, 1, 0]
theorem ok_nld_0 : codeOK bd_nld_0 = true := by kernel_rfl
noncomputable abbrev rest_nld_0 (K : Nat) (Φ : Ex → St → Prop) : Ex → St → Prop := fun e S' => Holds C P 130 [] K Φ (after C w_nld (b_nld) [1, 1, 1, 1, 1, 1, 0, 1, 0] [] lf e S')
theorem nld_L0 (ex : Bool) (b : List Nat) (f t : Nat) (s : Net × Nat) (K : Nat) (Φ : Ex → St → Prop) :
  (Holds C P 130 [] K (RoundQ C 130 [] K (I_ld0 ex b f t) (fun s => s.1 = ldN f t (s.2 + 1) 0 ∧ s.2 ≤ b.length ∧ s.2 ≤ 10) (fun s => 10 - s.2) ((fun s => 10 - s.2) (s)) (rest_nld_0 K Φ)) (vc C w_nld bd_nld_0 [] ((I_ld0 ex b f t) (s)) lf)) =
  (((decide ((((Prod.snd s) : Nat) : Int) < (((List.length b) : Nat) : Int))) = true →
 (((decide ((((Prod.snd s) : Nat) : Int) < (10 : Int))) = true →
  ((((0 : Int) ≤ (((Prod.snd s) : Nat) : Int)) ∧ ((((Prod.snd s) : Nat) : Int) < (((List.length b) : Nat) : Int))) ∧
   ((I64 (((List.getD b (Prod.snd s) 0) : Nat) : Int)) ∧
   ((((((Prod.snd s) + 1) : Nat) : Int) ≠ (0 : Int)) ∧
   ((I64 (((5 + ((List.getD b (Prod.snd s) 0) % ((Prod.snd s) + 1))) : Nat) : Int)) ∧
   (Fun W.C W.P 21 [(W.netA false false (Prod.fst s)), (AV.i (1 : Int)), (AV.arr 2 1 (layParts (fun (x : Nat) => (AV.i (0 : Int))) [(0, (AV.i (((5 + ((List.getD b (Prod.snd s) 0) % ((Prod.snd s) + 1))) : Nat) : Int))), (1, (AV.i (0 : Int)))]))] [] (AV.st [(W.netA false false (W.doneN (W.toN (W.netA false false (Prod.fst s))) (1 : Int) ((((5 + ((List.getD b (Prod.snd s) 0) % ((Prod.snd s) + 1))) : Nat) : Int), (0 : Int)))), (AV.st [(AV.i (0 : Int)), (AV.i (0 : Int)), (AV.i (0 : Int))]), (AV.i (W.doneE (W.toN (W.netA false false (Prod.fst s))) (1 : Int) ((((5 + ((List.getD b (Prod.snd s) 0) % ((Prod.snd s) + 1))) : Nat) : Int), (0 : Int))))]) [] ∧
   (((W.ShK) ∧ ((W.ShK) ∧ (((true = true) ∧ (true = true)) ∧ True))) ∧
   ((((W.doneE (W.toN (W.netA false false (Prod.fst s))) (1 : Int) ((((5 + ((List.getD b (Prod.snd s) 0) % ((Prod.snd s) + 1))) : Nat) : Int), (0 : Int))) != (0 : Int)) = true →
   (Φ Ex.ret (St.mk [(0, (AV.v (Value.int IntKind.u8 ((f : Nat) : Int)))), (1, (AV.v (Value.int IntKind.u8 ((t : Nat) : Int)))), (2, (AV.dat (List.length b) ex 1 (rowL b))), (6, (AV.v (Value.bool false))), (7, (AV.sb true)), (8, (AV.ptr 8 [])), (9, (AV.i ((((Prod.snd s) + 1) : Nat) : Int))), (11, (AV.i (((Prod.snd s) : Nat) : Int))), (12, (AV.ptr 12 [])), (47, (AV.v (Value.bool true))), (78, (AV.v (Value.bool true)))] [(8, (Blk.c (W.netA false false (Prod.fst s)))), (12, (Blk.c (AV.st [(W.netA false false (W.doneN (W.toN (W.netA false false (Prod.fst s))) (1 : Int) ((((5 + ((List.getD b (Prod.snd s) 0) % ((Prod.snd s) + 1))) : Nat) : Int), (0 : Int)))), (AV.st [(AV.i (0 : Int)), (AV.i (0 : Int)), (AV.i (0 : Int))]), (AV.i (W.doneE (W.toN (W.netA false false (Prod.fst s))) (1 : Int) ((((5 + ((List.getD b (Prod.snd s) 0) % ((Prod.snd s) + 1))) : Nat) : Int), (0 : Int))))])))] [12, 8]))) ∧
   (((W.doneE (W.toN (W.netA false false (Prod.fst s))) (1 : Int) ((((5 + ((List.getD b (Prod.snd s) 0) % ((Prod.snd s) + 1))) : Nat) : Int), (0 : Int))) != (0 : Int)) = false →
   (Fun W.C W.P 27 [(W.netA false false (W.doneN (W.toN (W.netA false false (Prod.fst s))) (1 : Int) ((((5 + ((List.getD b (Prod.snd s) 0) % ((Prod.snd s) + 1))) : Nat) : Int), (0 : Int))))] [] (AV.sb (W.vB (W.toN (W.netA false false (W.doneN (W.toN (W.netA false false (Prod.fst s))) (1 : Int) ((((5 + ((List.getD b (Prod.snd s) 0) % ((Prod.snd s) + 1))) : Nat) : Int), (0 : Int))))))) [] ∧
    (True ∧
    (((! (W.vB (W.toN (W.netA false false (W.doneN (W.toN (W.netA false false (Prod.fst s))) (1 : Int) ((((5 + ((List.getD b (Prod.snd s) 0) % ((Prod.snd s) + 1))) : Nat) : Int), (0 : Int))))))) = true →
    (Φ Ex.ret (St.mk [(0, (AV.v (Value.int IntKind.u8 ((f : Nat) : Int)))), (1, (AV.v (Value.int IntKind.u8 ((t : Nat) : Int)))), (2, (AV.dat (List.length b) ex 1 (rowL b))), (6, (AV.v (Value.bool false))), (7, (AV.sb true)), (8, (AV.ptr 8 [])), (9, (AV.i ((((Prod.snd s) + 1) : Nat) : Int))), (11, (AV.i (((Prod.snd s) : Nat) : Int))), (12, (AV.ptr 12 [])), (47, (AV.v (Value.bool true))), (78, (AV.v (Value.bool true)))] [(8, (Blk.c (W.netA false false (Prod.fst s)))), (12, (Blk.c (AV.st [(W.netA false false (W.doneN (W.toN (W.netA false false (Prod.fst s))) (1 : Int) ((((5 + ((List.getD b (Prod.snd s) 0) % ((Prod.snd s) + 1))) : Nat) : Int), (0 : Int)))), (AV.st [(AV.i (0 : Int)), (AV.i (0 : Int)), (AV.i (0 : Int))]), (AV.i (W.doneE (W.toN (W.netA false false (Prod.fst s))) (1 : Int) ((((5 + ((List.getD b (Prod.snd s) 0) % ((Prod.snd s) + 1))) : Nat) : Int), (0 : Int))))])))] [12, 8]))) ∧
    ((! (W.vB (W.toN (W.netA false false (W.doneN (W.toN (W.netA false false (Prod.fst s))) (1 : Int) ((((5 + ((List.getD b (Prod.snd s) 0) % ((Prod.snd s) + 1))) : Nat) : Int), (0 : Int))))))) = false →
    ((I64 (((((Prod.snd s) + 1) + 1) : Nat) : Int)) ∧
     ((((((List.length (W.Net.fly (W.doneN (W.toN (W.netA false false (Prod.fst s))) (1 : Int) ((((5 + ((List.getD b (Prod.snd s) 0) % ((Prod.snd s) + 1))) : Nat) : Int), (0 : Int))))) : Nat) : Int) != (((((Prod.snd s) + 1) + 1) : Nat) : Int)) = true →
     (Φ Ex.ret (St.mk [(0, (AV.v (Value.int IntKind.u8 ((f : Nat) : Int)))), (1, (AV.v (Value.int IntKind.u8 ((t : Nat) : Int)))), (2, (AV.dat (List.length b) ex 1 (rowL b))), (6, (AV.v (Value.bool false))), (7, (AV.sb true)), (8, (AV.ptr 8 [])), (9, (AV.i ((((Prod.snd s) + 1) : Nat) : Int))), (11, (AV.i (((Prod.snd s) : Nat) : Int))), (12, (AV.ptr 12 [])), (47, (AV.v (Value.bool true))), (78, (AV.v (Value.bool true)))] [(8, (Blk.c (W.netA false false (Prod.fst s)))), (12, (Blk.c (AV.st [(W.netA false false (W.doneN (W.toN (W.netA false false (Prod.fst s))) (1 : Int) ((((5 + ((List.getD b (Prod.snd s) 0) % ((Prod.snd s) + 1))) : Nat) : Int), (0 : Int)))), (AV.st [(AV.i (0 : Int)), (AV.i (0 : Int)), (AV.i (0 : Int))]), (AV.i (W.doneE (W.toN (W.netA false false (Prod.fst s))) (1 : Int) ((((5 + ((List.getD b (Prod.snd s) 0) % ((Prod.snd s) + 1))) : Nat) : Int), (0 : Int))))])))] [12, 8]))) ∧
     (((((List.length (W.Net.fly (W.doneN (W.toN (W.netA false false (Prod.fst s))) (1 : Int) ((((5 + ((List.getD b (Prod.snd s) 0) % ((Prod.snd s) + 1))) : Nat) : Int), (0 : Int))))) : Nat) : Int) != (((((Prod.snd s) + 1) + 1) : Nat) : Int)) = false →
     ((I64 (((((Prod.snd s) + 1) + 1) : Nat) : Int)) ∧
      ((W.ShK) ∧
      ((I64 ((((Prod.snd s) + 1) : Nat) : Int)) ∧
      ((RoundQ C 130 [] K (I_ld0 ex b f t) (fun s => s.1 = ldN f t (s.2 + 1) 0 ∧ s.2 ≤ b.length ∧ s.2 ≤ 10) (fun s => 10 - s.2) ((fun s => 10 - s.2) (s)) (rest_nld_0 K Φ)) Ex.normal (St.mk [(0, (AV.v (Value.int IntKind.u8 ((f : Nat) : Int)))), (1, (AV.v (Value.int IntKind.u8 ((t : Nat) : Int)))), (2, (AV.dat (List.length b) ex 1 (rowL b))), (7, (AV.sb true)), (8, (AV.ptr 8 [])), (9, (AV.i (((((Prod.snd s) + 1) + 1) : Nat) : Int))), (11, (AV.i ((((Prod.snd s) + 1) : Nat) : Int))), (12, (AV.ptr 12 [])), (47, (AV.v (Value.bool true))), (78, (AV.v (Value.bool false)))] [(8, (Blk.c (W.netA false false (W.doneN (W.toN (W.netA false false (Prod.fst s))) (1 : Int) ((((5 + ((List.getD b (Prod.snd s) 0) % ((Prod.snd s) + 1))) : Nat) : Int), (0 : Int)))))), (12, (Blk.c (AV.st [(W.netA false false (W.doneN (W.toN (W.netA false false (Prod.fst s))) (1 : Int) ((((5 + ((List.getD b (Prod.snd s) 0) % ((Prod.snd s) + 1))) : Nat) : Int), (0 : Int)))), (AV.st [(AV.i (0 : Int)), (AV.i (0 : Int)), (AV.i (0 : Int))]), (AV.i (W.doneE (W.toN (W.netA false false (Prod.fst s))) (1 : Int) ((((5 + ((List.getD b (Prod.snd s) 0) % ((Prod.snd s) + 1))) : Nat) : Int), (0 : Int))))])))] [12, 8]))))))))))))))))))))) ∧
  ((decide ((((Prod.snd s) : Nat) : Int) < (10 : Int))) = false →
  (LoopOK W.C W.P 130 [] K (bodyAt b_nld [1, 1, 1, 1, 1, 1, 1, 0, 1, 0]) (St.mk [(0, (AV.v (Value.int IntKind.u8 ((f : Nat) : Int)))), (1, (AV.v (Value.int IntKind.u8 ((t : Nat) : Int)))), (2, (AV.dat (List.length b) ex 1 (rowL b))), (7, (AV.sb true)), (8, (AV.ptr 8 [])), (9, (AV.i ((((Prod.snd s) + 1) : Nat) : Int))), (11, (AV.i (((Prod.snd s) : Nat) : Int))), (13, (AV.i (0 : Int))), (47, (AV.v (Value.bool false)))] [(8, (Blk.c (W.netA false false (Prod.fst s))))] [8]) (fun (e : Ex) (S' : St) => Holds W.C W.P 130 [] K Φ (after W.C w_nld b_nld [1, 1, 1, 1, 1, 1, 1, 0, 1, 0] [] lf e S')))))) ∧
 ((decide ((((Prod.snd s) : Nat) : Int) < (((List.length b) : Nat) : Int))) = false →
 (LoopOK W.C W.P 130 [] K (bodyAt b_nld [1, 1, 1, 1, 1, 1, 1, 0, 1, 0]) (St.mk [(0, (AV.v (Value.int IntKind.u8 ((f : Nat) : Int)))), (1, (AV.v (Value.int IntKind.u8 ((t : Nat) : Int)))), (2, (AV.dat (List.length b) ex 1 (rowL b))), (7, (AV.sb true)), (8, (AV.ptr 8 [])), (9, (AV.i ((((Prod.snd s) + 1) : Nat) : Int))), (11, (AV.i (((Prod.snd s) : Nat) : Int))), (13, (AV.i (0 : Int))), (47, (AV.v (Value.bool false)))] [(8, (Blk.c (W.netA false false (Prod.fst s))))] [8]) (fun (e : Ex) (S' : St) => Holds W.C W.P 130 [] K Φ (after W.C w_nld b_nld [1, 1, 1, 1, 1, 1, 1, 0, 1, 0] [] lf e S'))))) := by kernel_rfl
noncomputable abbrev bd_nld_1 : Code := bodyAt (b_nld) [1, 1, 1, 1, 1, 1, 1, 0, 1, 0]
theorem ok_nld_1 : codeOK bd_nld_1 = true := by kernel_rfl
noncomputable abbrev rest_nld_1 (K : Nat) (Φ : Ex → St → Prop) : Ex → St → Prop := fun e S' => Holds C P 130 [] K Φ (after C w_nld (b_nld) [1, 1, 1, 1, 1, 1, 1, 0, 1, 0] [] lf e S')
theorem nld_L1 (f t c : Nat) (s : Net × Nat) (K : Nat) (Φ : Ex → St → Prop) :
  (Holds C P 130 [] K (RoundQ C 130 [] K (I_ld1 f t c) (fun s => s.1 = ldN f t c s.2 ∧ s.2 ≤ c) (fun s => c - s.2) ((fun s => c - s.2) (s)) (rest_nld_1 K Φ)) (vc C w_nld bd_nld_1 [] ((I_ld1 f t c) (s)) lf)) =
  (((decide ((((Prod.snd s) : Nat) : Int) < ((c : Nat) : Int))) = true →
 ((I64 (((5 + (Prod.snd s)) : Nat) : Int)) ∧
  (Fun W.C W.P 17 [(W.netA false false (Prod.fst s)), (AV.i (((5 + (Prod.snd s)) : Nat) : Int))] [] (AV.st [(W.netA false false (W.takeN (W.toN (W.netA false false (Prod.fst s))) (((5 + (Prod.snd s)) : Nat) : Int))), (W.pkA (W.takeP (W.toN (W.netA false false (Prod.fst s))) (((5 + (Prod.snd s)) : Nat) : Int))), (AV.i (W.takeE (W.toN (W.netA false false (Prod.fst s))) (((5 + (Prod.snd s)) : Nat) : Int)))]) [] ∧
  (((W.ShK) ∧ ((W.ShK) ∧ (((true = true) ∧ (true = true)) ∧ True))) ∧
  ((((W.takeE (W.toN (W.netA false false (Prod.fst s))) (((5 + (Prod.snd s)) : Nat) : Int)) != (0 : Int)) = true →
  (Φ Ex.ret (St.mk [(0, (AV.v (Value.int IntKind.u8 ((f : Nat) : Int)))), (1, (AV.v (Value.int IntKind.u8 ((t : Nat) : Int)))), (6, (AV.v (Value.bool false))), (7, (AV.sb true)), (8, (AV.ptr 8 [])), (9, (AV.i ((c : Nat) : Int))), (13, (AV.i (((Prod.snd s) : Nat) : Int))), (14, (AV.ptr 14 [])), (85, (AV.v (Value.bool true))), (113, (AV.v (Value.bool true)))] [(8, (Blk.c (W.netA false false (Prod.fst s)))), (14, (Blk.c (AV.st [(W.netA false false (W.takeN (W.toN (W.netA false false (Prod.fst s))) (((5 + (Prod.snd s)) : Nat) : Int))), (W.pkA (W.takeP (W.toN (W.netA false false (Prod.fst s))) (((5 + (Prod.snd s)) : Nat) : Int))), (AV.i (W.takeE (W.toN (W.netA false false (Prod.fst s))) (((5 + (Prod.snd s)) : Nat) : Int)))])))] [14, 8]))) ∧
  (((W.takeE (W.toN (W.netA false false (Prod.fst s))) (((5 + (Prod.snd s)) : Nat) : Int)) != (0 : Int)) = false →
  ((I64 (((5 + (Prod.snd s)) : Nat) : Int)) ∧
   ((I64 ((f : Nat) : Int)) ∧
   ((I64 ((t : Nat) : Int)) ∧
   ((I64 (((300 + t) : Nat) : Int)) ∧
   (((! (((Prod.fst (W.takeP (W.toN (W.netA false false (Prod.fst s))) (((5 + (Prod.snd s)) : Nat) : Int))) == (((5 + (Prod.snd s)) : Nat) : Int)) && (((Prod.fst (Prod.snd (W.takeP (W.toN (W.netA false false (Prod.fst s))) (((5 + (Prod.snd s)) : Nat) : Int)))) == ((f : Nat) : Int)) && (((Prod.snd (Prod.snd (W.takeP (W.toN (W.netA false false (Prod.fst s))) (((5 + (Prod.snd s)) : Nat) : Int)))) == (((300 + t) : Nat) : Int)) && true)))) = true →
   (Φ Ex.ret (St.mk [(0, (AV.v (Value.int IntKind.u8 ((f : Nat) : Int)))), (1, (AV.v (Value.int IntKind.u8 ((t : Nat) : Int)))), (6, (AV.v (Value.bool false))), (7, (AV.sb true)), (8, (AV.ptr 8 [])), (9, (AV.i ((c : Nat) : Int))), (13, (AV.i (((Prod.snd s) : Nat) : Int))), (14, (AV.ptr 14 [])), (85, (AV.v (Value.bool true))), (113, (AV.v (Value.bool true)))] [(8, (Blk.c (W.netA false false (Prod.fst s)))), (14, (Blk.c (AV.st [(W.netA false false (W.takeN (W.toN (W.netA false false (Prod.fst s))) (((5 + (Prod.snd s)) : Nat) : Int))), (W.pkA (W.takeP (W.toN (W.netA false false (Prod.fst s))) (((5 + (Prod.snd s)) : Nat) : Int))), (AV.i (W.takeE (W.toN (W.netA false false (Prod.fst s))) (((5 + (Prod.snd s)) : Nat) : Int)))])))] [14, 8]))) ∧
   ((! (((Prod.fst (W.takeP (W.toN (W.netA false false (Prod.fst s))) (((5 + (Prod.snd s)) : Nat) : Int))) == (((5 + (Prod.snd s)) : Nat) : Int)) && (((Prod.fst (Prod.snd (W.takeP (W.toN (W.netA false false (Prod.fst s))) (((5 + (Prod.snd s)) : Nat) : Int)))) == ((f : Nat) : Int)) && (((Prod.snd (Prod.snd (W.takeP (W.toN (W.netA false false (Prod.fst s))) (((5 + (Prod.snd s)) : Nat) : Int)))) == (((300 + t) : Nat) : Int)) && true)))) = false →
   (Fun W.C W.P 27 [(W.netA false false (W.takeN (W.toN (W.netA false false (Prod.fst s))) (((5 + (Prod.snd s)) : Nat) : Int)))] [] (AV.sb (W.vB (W.toN (W.netA false false (W.takeN (W.toN (W.netA false false (Prod.fst s))) (((5 + (Prod.snd s)) : Nat) : Int)))))) [] ∧
    (True ∧
    (((! (W.vB (W.toN (W.netA false false (W.takeN (W.toN (W.netA false false (Prod.fst s))) (((5 + (Prod.snd s)) : Nat) : Int)))))) = true →
    (Φ Ex.ret (St.mk [(0, (AV.v (Value.int IntKind.u8 ((f : Nat) : Int)))), (1, (AV.v (Value.int IntKind.u8 ((t : Nat) : Int)))), (6, (AV.v (Value.bool false))), (7, (AV.sb true)), (8, (AV.ptr 8 [])), (9, (AV.i ((c : Nat) : Int))), (13, (AV.i (((Prod.snd s) : Nat) : Int))), (14, (AV.ptr 14 [])), (85, (AV.v (Value.bool true))), (113, (AV.v (Value.bool true)))] [(8, (Blk.c (W.netA false false (Prod.fst s)))), (14, (Blk.c (AV.st [(W.netA false false (W.takeN (W.toN (W.netA false false (Prod.fst s))) (((5 + (Prod.snd s)) : Nat) : Int))), (W.pkA (W.takeP (W.toN (W.netA false false (Prod.fst s))) (((5 + (Prod.snd s)) : Nat) : Int))), (AV.i (W.takeE (W.toN (W.netA false false (Prod.fst s))) (((5 + (Prod.snd s)) : Nat) : Int)))])))] [14, 8]))) ∧
    ((! (W.vB (W.toN (W.netA false false (W.takeN (W.toN (W.netA false false (Prod.fst s))) (((5 + (Prod.snd s)) : Nat) : Int)))))) = false →
    ((W.ShK) ∧
     ((I64 ((((Prod.snd s) + 1) : Nat) : Int)) ∧
     ((RoundQ C 130 [] K (I_ld1 f t c) (fun s => s.1 = ldN f t c s.2 ∧ s.2 ≤ c) (fun s => c - s.2) ((fun s => c - s.2) (s)) (rest_nld_1 K Φ)) Ex.normal (St.mk [(0, (AV.v (Value.int IntKind.u8 ((f : Nat) : Int)))), (1, (AV.v (Value.int IntKind.u8 ((t : Nat) : Int)))), (7, (AV.sb true)), (8, (AV.ptr 8 [])), (9, (AV.i ((c : Nat) : Int))), (13, (AV.i ((((Prod.snd s) + 1) : Nat) : Int))), (14, (AV.ptr 14 [])), (85, (AV.v (Value.bool true))), (113, (AV.v (Value.bool false)))] [(8, (Blk.c (W.netA false false (W.takeN (W.toN (W.netA false false (Prod.fst s))) (((5 + (Prod.snd s)) : Nat) : Int))))), (14, (Blk.c (AV.st [(W.netA false false (W.takeN (W.toN (W.netA false false (Prod.fst s))) (((5 + (Prod.snd s)) : Nat) : Int))), (W.pkA (W.takeP (W.toN (W.netA false false (Prod.fst s))) (((5 + (Prod.snd s)) : Nat) : Int))), (AV.i (W.takeE (W.toN (W.netA false false (Prod.fst s))) (((5 + (Prod.snd s)) : Nat) : Int)))])))] [14, 8])))))))))))))))))))) ∧
 ((decide ((((Prod.snd s) : Nat) : Int) < ((c : Nat) : Int))) = false →
 ((((((List.length (W.Net.fly (Prod.fst s))) : Nat) : Int) == (0 : Int)) = true →
  ((I64 (((5 + c) : Nat) : Int)) ∧
   ((((W.Net.next (Prod.fst s)) == (((5 + c) : Nat) : Int)) = true →
   (Φ Ex.ret (St.mk [(0, (AV.v (Value.int IntKind.u8 ((f : Nat) : Int)))), (1, (AV.v (Value.int IntKind.u8 ((t : Nat) : Int)))), (6, (AV.sb true)), (7, (AV.sb true)), (8, (AV.ptr 8 [])), (9, (AV.i ((c : Nat) : Int))), (13, (AV.i (((Prod.snd s) : Nat) : Int))), (85, (AV.v (Value.bool false)))] [(8, (Blk.c (W.netA false false (Prod.fst s))))] [8]))) ∧
   (((W.Net.next (Prod.fst s)) == (((5 + c) : Nat) : Int)) = false →
   (Φ Ex.ret (St.mk [(0, (AV.v (Value.int IntKind.u8 ((f : Nat) : Int)))), (1, (AV.v (Value.int IntKind.u8 ((t : Nat) : Int)))), (6, (AV.v (Value.bool false))), (7, (AV.sb true)), (8, (AV.ptr 8 [])), (9, (AV.i ((c : Nat) : Int))), (13, (AV.i (((Prod.snd s) : Nat) : Int))), (85, (AV.v (Value.bool false)))] [(8, (Blk.c (W.netA false false (Prod.fst s))))] [8])))))) ∧
  (((((List.length (W.Net.fly (Prod.fst s))) : Nat) : Int) == (0 : Int)) = false →
  (Φ Ex.ret (St.mk [(0, (AV.v (Value.int IntKind.u8 ((f : Nat) : Int)))), (1, (AV.v (Value.int IntKind.u8 ((t : Nat) : Int)))), (6, (AV.v (Value.bool false))), (7, (AV.sb true)), (8, (AV.ptr 8 [])), (9, (AV.i ((c : Nat) : Int))), (13, (AV.i (((Prod.snd s) : Nat) : Int))), (85, (AV.v (Value.bool false)))] [(8, (Blk.c (W.netA false false (Prod.fst s))))] [8])))))) := by kernel_rfl
theorem ldN_len (f t c i : Nat) : (ldN f t c i).fly.length = c - i := by simp [ldN]
theorem ldN_at {f t c i k : Nat} (hk : k < c - i) : kAt (ldN f t c i).fly k = ldP f t (i + k) := by
  have h : k < (ldN f t c i).fly.length := by rw [ldN_len]; exact hk
  rw [kAt_lt h]
  simp [ldN]
theorem ldP_parts {f t : Nat} (k : Nat) (hf : f < 256) (ht : t < 256) : partsB (ldP f t k).2.1 (ldP f t k).2.2 = true := by
  show partsB ((f : Nat) : Int) ((300 + t : Nat) : Int) = true
  simp only [partsB, Bool.and_eq_true, decide_eq_true_eq]; omega
theorem ldN_ok {f t c : Nat} (i : Nat) (hf : f < 256) (ht : t < 256) (hc : c ≤ 11) : VN (ldN f t c i) := by
  refine ⟨List.pairwise_iff_getElem.2 fun j k hj hk hjk => ?_, fun p hp => ?_, List.Pairwise.nil, (fun x hx => absurd hx List.not_mem_nil), by rw [ldN_len]; omega, Nat.zero_le _, ?_, ?_⟩
  · rw [← kAt_lt hj, ← kAt_lt hk]
    rw [ldN_len] at hj hk
    rw [ldN_at hj, ldN_at hk]
    show ((5 + (i + j) : Nat) : Int) < ((5 + (i + k) : Nat) : Int)
    omega
  · obtain ⟨k, hk, rfl⟩ := List.getElem_of_mem hp
    rw [← kAt_lt hk]
    rw [ldN_len] at hk
    rw [ldN_at hk]
    refine ⟨?_, ?_, ldP_parts _ hf ht⟩
    · show 1 ≤ ((5 + (i + k) : Nat) : Int); omega
    · show ((5 + (i + k) : Nat) : Int) < ((5 + c : Nat) : Int); omega
  · show 1 ≤ ((5 + c : Nat) : Int); omega
  · show ((5 + c : Nat) : Int) ≤ 1000000000; omega
theorem ldN_dbl {f t c r : Nat} (hf : f < 256) (ht : t < 256) (hc : c ≤ 10) (hr : r < c) : dblE (ldN f t c 0) ((5 + r : Nat) : Int) = 0 ∧ dblN (ldN f t c 0) ((5 + r : Nat) : Int) = ldN f t (c + 1) 0 := by
  have hv := ldN_ok 0 hf ht (show c ≤ 11 by omega)
  have hk : kAt (ldN f t c 0).fly r = ldP f t r := by rw [ldN_at (by omega), Nat.zero_add]
  obtain ⟨h1, h2⟩ := hv.hit (id := ((5 + r : Nat) : Int)) (i := r) (by rw [ldN_len]; omega) (by rw [hk]; rfl)
  have hb : addB (ldN f t c 0) = true := addB_t.2 ⟨by rw [ldN_len]; omega, by show ((5 + c : Nat) : Int) < 1000000000; omega⟩
  have hp : pkN (ldN f t c 0) ((5 + r : Nat) : Int) = ldP f t r := by unfold pkN; rw [h1, hk]
  have e : dblE (ldN f t c 0) ((5 + r : Nat) : Int) = 0 := by unfold dblE; rw [h2, hb]; rfl
  refine ⟨e, ?_⟩
  unfold dblN addN
  rw [if_pos e, if_pos hb, hp]
  unfold ldN
  simp only [List.drop_zero, List.range_succ, List.map_append, List.map_cons, List.map_nil]
  congr 1
theorem ldN_take {f t c i : Nat} (hf : f < 256) (ht : t < 256) (hc : c ≤ 11) (hi : i < c) : takeE (ldN f t c i) ((5 + i : Nat) : Int) = 0 ∧ takeP (ldN f t c i) ((5 + i : Nat) : Int) = ldP f t i ∧ takeN (ldN f t c i) ((5 + i : Nat) : Int) = ldN f t c (i + 1) := by
  have hv := ldN_ok i hf ht hc
  have hk : kAt (ldN f t c i).fly 0 = ldP f t i := by rw [ldN_at (by omega), Nat.add_zero]
  obtain ⟨h1, h2⟩ := hv.hit (id := ((5 + i : Nat) : Int)) (i := 0) (by rw [ldN_len]; omega) (by rw [hk]; rfl)
  have hp : pkN (ldN f t c i) ((5 + i : Nat) : Int) = ldP f t i := by unfold pkN; rw [h1, hk]
  have e : takeE (ldN f t c i) ((5 + i : Nat) : Int) = 0 := by unfold takeE; rw [h2]; rfl
  refine ⟨e, by unfold takeP; rw [if_pos e, hp], ?_⟩
  unfold takeN loseN
  rw [if_pos e, if_pos h2, h1]
  unfold ldN
  simp only [List.eraseIdx_zero, List.tail_drop]
theorem nld_fun (ex : Bool) (b : List Nat) (f t : Nat) (hf : f < 256) (ht : t < 256) (hb : Small b) : Fun C P F_nld [u8 f, u8 t, dB ex b] [] (.sb true) [] := by
  refine in_nld (W := w_nld) rfl 0 (by simp) rfl (fun id h => absurd rfl h) ?_
  refine of_eq (nld_A ex b f t 0 _) ⟨sanity_fun, trivial, by simp, cut_ok (S2 := S_ld3 ex b f t ⟨[], [], 5⟩) (ent_of [(8, 8)] rfl (tm_cons rfl (sm_same rfl) (tm_cons rfl (sm_same rfl) (tm_cons rfl (sm_same rfl) (tm_cons rfl (sm_same rfl) (tm_cons rfl (sm_ptr rfl) (tm_cons rfl (sm_same rfl) tm_nil)))))) (hp_cons rfl rfl (z_net _ _ _) hp_nil)) ?_⟩
  obtain ⟨n, hn⟩ : ∃ n : Net, n = ⟨[], [], 5⟩ := ⟨_, rfl⟩
  have hv : VN n := hn ▸ VN.zero 5 (by decide) (by decide)
  rw [← hn]
  have e0 : toN (netD n) = n := toN_net false false n
  refine of_eq (nld_C3 ex b f t n 0 _) ?_
  rw [e0]
  have hp : partsB ((f : Nat) : Int) ((300 + t : Nat) : Int) = true := ldP_parts 0 hf ht
  have hE : sendE n ((f : Nat) : Int) ((300 + t : Nat) : Int) = 0 := by unfold sendE; rw [hp, hn]; rfl
  have hI : sendI n ((f : Nat) : Int) ((300 + t : Nat) : Int) = 5 := by unfold sendI; rw [hE, hn]; rfl
  have hN : sendN n ((f : Nat) : Int) ((300 + t : Nat) : Int) = ldN f t 1 0 := by
    unfold sendN
    rw [if_pos hE, hn]
    rfl
  refine ⟨(by first | omega | decide | (unfold I64; omega)), (by first | omega | decide | (unfold I64; omega)), (by first | omega | decide | (unfold I64; omega)), sent_fun hv _ _, by simp, cut_ok (S2 := S_ld4 ex b f t n (ldN f t 1 0, 5, 0)) (ent_of [(8, 8), (10, 10)] rfl (tm_cons rfl (sm_same rfl) (tm_cons rfl (sm_same rfl) (tm_cons rfl (sm_same rfl) (tm_cons rfl (sm_same rfl) (tm_cons rfl (sm_ptr rfl) (tm_cons rfl (sm_same rfl) (tm_cons rfl (sm_ptr rfl) tm_nil))))))) (hp_cons rfl rfl (sm_same rfl) (hp_cons rfl rfl (sm_eq rfl (by rw [hE, hI, hN])) hp_nil))) ?_⟩
  obtain ⟨a, ha⟩ : ∃ a : Net × Int × Int, a = (ldN f t 1 0, 5, 0) := ⟨_, rfl⟩
  have va : VN a.1 := ha ▸ ldN_ok 0 hf ht (by decide)
  have e1 : toN (netD a.1) = a.1 := toN_net false false _
  rw [← ha]
  refine of_eq (nld_C4 ex b f t n a 0 _) ?_
  rw [e1]
  refine ⟨fun q => (ne_no (by rw [ha]) q).elim, fun _ => ⟨fun q => (ne_no (by rw [ha]) q).elim, fun _ => ⟨rvalid_ok va, trivial, fun q => (nt_no (valid_ok va) q).elim, fun _ => ⟨by simp, ?_⟩⟩⟩⟩
  rw [ha]
  refine loop_inv (W := w_nld) ctx mixed ok_nld_0 (I_ld0 ex b f t) (fun s => s.1 = ldN f t (s.2 + 1) 0 ∧ s.2 ≤ b.length ∧ s.2 ≤ 10) (fun s => 10 - s.2) (ldN f t 1 0, 0) ⟨rfl, Nat.zero_le _, Nat.zero_le _⟩ ?_ fun s hs => ?_
  · exact ent_of [(8, 8)] rfl (tm_cons rfl (sm_same rfl) (tm_cons rfl (sm_same rfl) (tm_cons rfl (sm_same rfl) (tm_cons rfl (sm_same rfl) (tm_cons rfl (sm_ptr rfl) (tm_cons rfl (sm_same rfl) (tm_cons rfl (sm_same rfl) tm_nil))))))) (hp_cons rfl rfl (sm_same rfl) hp_nil)
  clear e1 va ha hN hI hE e0 hv hn
  obtain ⟨m, i⟩ := s
  obtain ⟨hm, hi, h10⟩ := hs
  dsimp only at hm hi h10
  have vm : VN m := hm ▸ ldN_ok 0 hf ht (by omega)
  have e0 : toN (netD m) = m := toN_net false false m
  -- what is left when all is doubled
  have fin : ∀ S, Ent C 130 [] 0 S (I_ld1 f t (i + 1) (m, 0)) → LoopOK C P 130 [] 0 (bodyAt b_nld [1, 1, 1, 1, 1, 1, 1, 0, 1, 0]) S (rest_nld_1 0 (FunPost C 130 0 [.tmp 6] (.sb true) [])) := fun S hS => by
    refine loop_inv (W := w_nld) ctx mixed ok_nld_1 (I_ld1 f t (i + 1)) (fun s => s.1 = ldN f t (i + 1) s.2 ∧ s.2 ≤ i + 1) (fun s => i + 1 - s.2) (m, 0) ⟨hm, Nat.zero_le _⟩ hS fun s hs => ?_
    clear e0
    obtain ⟨u, j⟩ := s
    obtain ⟨hu, hj⟩ := hs
    dsimp only at hu hj
    have vu : VN u := hu ▸ ldN_ok j hf ht (by omega)
    have e0 : toN (netD u) = u := toN_net false false u
    refine of_eq (nld_L1 f t (i + 1) (u, j) 0 _) ?_
    dsimp only
    rw [e0]
    refine ⟨fun q => ?_, fun q => ?_⟩
    · have q := of_decide_eq_true q
      obtain ⟨k1, k2, k3⟩ := ldN_take (c := i + 1) (i := j) hf ht (by omega) (by omega)
      rw [← hu] at k1 k2 k3
      have e1 : toN (netD (takeN u ((5 + j : Nat) : Int))) = takeN u ((5 + j : Nat) : Int) := toN_net false false _
      have vt := vu.take ((5 + j : Nat) : Int)
      rw [e1, k2]
      refine ⟨(by first | omega | decide | (unfold I64; omega)), k2 ▸ taken_fun vu _, by simp, fun q => (ne_no k1 q).elim, fun _ => ⟨(by first | omega | decide | (unfold I64; omega)), (by first | omega | decide | (unfold I64; omega)), (by first | omega | decide | (unfold I64; omega)), (by first | omega | decide | (unfold I64; omega)), fun q => (nt_no ?_ q).elim, fun _ => ⟨rvalid_ok vt, trivial, fun q => (nt_no (valid_ok vt) q).elim, fun _ => ⟨by simp, (by first | omega | decide | (unfold I64; omega)), ?_⟩⟩⟩⟩
      · simp [ldP]
      · exact round_end (takeN u ((5 + j : Nat) : Int), j + 1) ⟨k3, by dsimp only; omega⟩ (ent_of [(8, 8)] rfl (tm_cons rfl (sm_same rfl) (tm_cons rfl (sm_same rfl) (tm_cons rfl (sm_same rfl) (tm_cons rfl (sm_ptr rfl) (tm_cons rfl (sm_same rfl) (tm_cons rfl (sm_same rfl) tm_nil)))))) (hp_cons rfl rfl (sm_same rfl) hp_nil)) (by dsimp only; omega)
    · have q := of_decide_eq_false q
      obtain rfl : j = i + 1 := by omega
      refine ⟨fun _ => ⟨(by first | omega | decide | (unfold I64; omega)), fun _ => post_tmp rfl (sm_sb rfl), fun q => (tf_no (by rw [hu]; simp [ldN]) q).elim⟩, fun q => (tf_no (by rw [hu]; simp [ldN]) q).elim⟩
  refine of_eq (nld_L0 ex b f t (m, i) 0 _) ?_
  dsimp only
  rw [e0]
  refine ⟨fun q => ⟨fun q2 => ?_, fun q2 => fin _ (ent_of [(8, 8)] rfl (tm_cons rfl (sm_same rfl) (tm_cons rfl (sm_same rfl) (tm_cons rfl (sm_same rfl) (tm_cons rfl (sm_ptr rfl) (tm_cons rfl (sm_same rfl) (tm_cons rfl (sm_same rfl) tm_nil)))))) (hp_cons rfl rfl (sm_same rfl) hp_nil))⟩, fun q => fin _ (ent_of [(8, 8)] rfl (tm_cons rfl (sm_same rfl) (tm_cons rfl (sm_same rfl) (tm_cons rfl (sm_same rfl) (tm_cons rfl (sm_ptr rfl) (tm_cons rfl (sm_same rfl) (tm_cons rfl (sm_same rfl) tm_nil)))))) (hp_cons rfl rfl (sm_same rfl) hp_nil))⟩
  have q := of_decide_eq_true q
  have q2 := of_decide_eq_true q2
  have hbi : b.getD i 0 < 256 := by
    rw [List.getD_eq_getElem?_getD, List.getElem?_eq_getElem (by omega)]
    exact hb _ (List.getElem_mem (by omega))
  have hr : b.getD i 0 % (i + 1) < i + 1 := Nat.mod_lt _ (by omega)
  obtain ⟨r, hr2⟩ : ∃ r, r = b.getD i 0 % (i + 1) := ⟨_, rfl⟩
  rw [← hr2] at hr ⊢
  obtain ⟨k1, k2⟩ := ldN_dbl (c := i + 1) (r := r) hf ht (by omega) hr
  rw [← hm] at k1 k2
  have k1 : doneE m 1 (((5 + r : Nat) : Int), 0) = 0 := k1
  have k2 : doneN m 1 (((5 + r : Nat) : Int), 0) = ldN f t (i + 1 + 1) 0 := k2
  have vd := vm.done 1 (((5 + r : Nat) : Int), 0)
  have e1 : toN (netD (doneN m 1 (((5 + r : Nat) : Int), 0))) = doneN m 1 (((5 + r : Nat) : Int), 0) := toN_net false false _
  rw [e1]
  have hlen : ((doneN m 1 (((5 + r : Nat) : Int), 0)).fly.length : Int) = ((i + 1 + 1 : Nat) : Int) := by rw [k2, ldN_len]; rfl
  exact ⟨(by first | omega | decide | (unfold I64; omega)), (by first | omega | decide | (unfold I64; omega)), (by first | omega | decide | (unfold I64; omega)), (by first | omega | decide | (unfold I64; omega)), done_pair vm 1 _ _, by simp, fun q => (ne_no k1 q).elim, fun _ => ⟨rvalid_ok vd, trivial, fun q => (nt_no (valid_ok vd) q).elim, fun _ => ⟨(by first | omega | decide | (unfold I64; omega)), fun q => (ne_no hlen q).elim, fun _ => ⟨(by first | omega | decide | (unfold I64; omega)), by simp, (by first | omega | decide | (unfold I64; omega)), round_end (doneN m 1 (((5 + r : Nat) : Int), 0), i + 1) ⟨k2, by dsimp only; omega, by dsimp only; omega⟩ (ent_of [(8, 8)] rfl (tm_cons rfl (sm_same rfl) (tm_cons rfl (sm_same rfl) (tm_cons rfl (sm_same rfl) (tm_cons rfl (sm_same rfl) (tm_cons rfl (sm_ptr rfl) (tm_cons rfl (sm_same rfl) (tm_cons rfl (sm_same rfl) tm_nil))))))) (hp_cons rfl rfl (sm_same rfl) hp_nil)) (by dsimp only; omega)⟩⟩⟩⟩
theorem nld_law {x0 x1 x2 : AV} (h0 : Typed C.tt 6 5 x0) (h1 : Typed C.tt 6 5 x1) (h2 : Typed C.tt 6 51 x2) : Fun C P F_nld [x0, x1, x2] [] (.sb true) [] := by
  obtain ⟨f, rfl, hf⟩ := typed_u8 rfl h0
  obtain ⟨t, rfl, ht⟩ := typed_u8 rfl h1
  obtain ⟨b, ex, hb, _, s2⟩ := typed_bytes (e := 5) rfl rfl rfl h2
  exact (nld_fun ex b f t hf ht hb).sim ⟨sm_same rfl, sm_same rfl, s2, trivial⟩ trivial
end Go.Bu.W

