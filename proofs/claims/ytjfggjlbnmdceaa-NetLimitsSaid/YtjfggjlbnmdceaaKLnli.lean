/- NetLimits. -/
import Derived.Test.YtjfggjlbnmdceaaKNQ
namespace Go.Bu.W
def wayLi (keep : List Nat) (nt : Nat) (cuts : List Nat) : Way := ⟨crN9, byrefI, keep, [], nt, cuts⟩
def w_nli : Way := wayLi [0, 1, 2, 4, 5, 6, 7, 8, 9, 10, 11, 18, 52, 94, 153] 173 [9,12,13,15,17]
def fulK (n k : Nat) : Pk := (((1 + n + k : Nat) : Int), ((k : Nat) : Int), ((k + 1 : Nat) : Int))
def fulP (k : Nat) : PI := (((k : Nat) : Int), ((k + 5 : Nat) : Int))
def fullN (n : Nat) : Net := ⟨(List.range 200).map (fulK n), (List.range 200).map fulP, ((1 + n + 200 : Nat) : Int)⟩
def I_li (w : PI) (n : Nat) (i : Nat) : St := { tm := [(2, .ptr 2 []), (5, .sb true), (6, .ptr 6 []), (7, i64 i)], hp := [(2, .c (prA w)), (6, .c (.st [.sl 30 [] 0 i i false 3, .sl 39 [] 0 i i false 2, i64 (1 + n + i)])), (30, .c (.arr i 3 (fun k => pkA (fulK n k)))), (39, .c (.arr i 2 (fun k => prA (fulP k))))], seen := [2, 6, 30, 39] }
def S_li9 (w : PI) (m : Net) : St := { tm := [(2, .ptr 2 []), (5, .sb true), (6, .ptr 6 [])], hp := [(2, .c (prA w)), (6, .c (netD m))], seen := [2, 6] }
def S_li12 (w : PI) (m : Net) (r : Bool) : St := { tm := [(2, .ptr 2 []), (5, .sb true), (6, .ptr 6 []), (8, .sb r)], hp := [(2, .c (prA w)), (6, .c (netD m))], seen := [2, 6] }
def S_li13 (w : PI) (m : Net) (r : Bool) (a : Net × Int × Int) (c : Net × Pk × Int) (o : Net × Int × Int) : St := { tm := [(2, .ptr 2 []), (5, .sb true), (6, .ptr 6 []), (8, .sb r), (9, .ptr 9 []), (10, .ptr 10 []), (11, .ptr 11 [])], hp := [(2, .c (prA w)), (6, .c (netD m)), (9, .c (sS a)), (10, .c (sT c)), (11, .c (sS o))], seen := [2, 6, 9, 10, 11] }
def S_li17 (w : PI) (m : Net) (c : Net × Pk × Int) : St := { tm := [(2, .ptr 2 []), (5, .sb true), (6, .ptr 6 []), (10, .ptr 10 [])], hp := [(2, .c (prA w)), (6, .c (netD m)), (10, .c (sT c))], seen := [2, 6, 10] }

theorem nli_A (w : PI) (n : Nat) (K : Nat) (Φ : Ex → St → Prop) :
  (Holds C P 173 [] K Φ (vc C w_nli b_nli [] (start [prA w, u8 n] []) lf)) =
  (Fun W.C W.P 11 [] [] (AV.sb true) [] ∧
 (True ∧
 ((I64 ((n : Nat) : Int)) ∧
 ((I64 (((1 + n) : Nat) : Int)) ∧
 ((W.ShK) ∧
 (LoopOK W.C W.P 173 [] K (bodyAt b_nli [1, 1, 1, 0, 1, 0]) (St.mk [(0, (W.prA w)), (1, (AV.v (Value.int IntKind.u8 ((n : Nat) : Int)))), (2, (AV.ptr 2 [])), (4, (AV.v (Value.bool false))), (5, (AV.sb true)), (6, (AV.ptr 6 [])), (7, (AV.i (0 : Int)))] [(2, (Blk.c (W.prA w))), (6, (Blk.c (AV.st [(AV.dat 0 true 0 (fun (x : Nat) => (AV.v (Value.tuple (List.toArray []))))), (AV.dat 0 true 0 (fun (x : Nat) => (AV.v (Value.tuple (List.toArray []))))), (AV.i (((1 + n) : Nat) : Int))])))] [6, 2]) (fun (e : Ex) (S' : St) => Holds W.C W.P 173 [] K Φ (after W.C w_nli b_nli [1, 1, 1, 0, 1, 0] [] lf e S')))))))) := by kernel_rfl
noncomputable abbrev bd_nli_0 : Code := bodyAt (b_nli) [1, 1, 1, 0, 1, 0]
theorem ok_nli_0 : codeOK bd_nli_0 = true := by kernel_rfl
noncomputable abbrev rest_nli_0 (K : Nat) (Φ : Ex → St → Prop) : Ex → St → Prop := fun e S' => Holds C P 173 [] K Φ (after C w_nli (b_nli) [1, 1, 1, 0, 1, 0] [] lf e S')
theorem nli_L0 (w : PI) (n : Nat) (i : Nat) (K : Nat) (Φ : Ex → St → Prop) :
  (Holds C P 173 [] K (RoundQ C 173 [] K (I_li w n) (fun i => i ≤ 200) (fun i => 200 - i) ((fun i => 200 - i) (i)) (rest_nli_0 K Φ)) (vc C w_nli bd_nli_0 [] ((I_li w n) (i)) lf)) =
  (((decide (((i : Nat) : Int) < (200 : Int))) = true →
 ((I64 (((i + 1) : Nat) : Int)) ∧
  ((((i + 1) * 24) ≤ 140737488355328) ∧
  ((I64 (((i + 5) : Nat) : Int)) ∧
  ((((i + 1) * 16) ≤ 140737488355328) ∧
  ((I64 (((((1 + n) + i) + 1) : Nat) : Int)) ∧
  ((I64 (((i + 1) : Nat) : Int)) ∧
  ((RoundQ C 173 [] K (I_li w n) (fun i => i ≤ 200) (fun i => 200 - i) ((fun i => 200 - i) (i)) (rest_nli_0 K Φ)) Ex.normal (St.mk [(2, (AV.ptr 2 [])), (5, (AV.sb true)), (6, (AV.ptr 6 [])), (7, (AV.i (((i + 1) : Nat) : Int))), (18, (AV.v (Value.bool true)))] [(2, (Blk.c (W.prA w))), (6, (Blk.c (AV.st [(AV.sl 1030 [] 0 (i + 1) (i + 1) false 3), (AV.sl 1039 [] 0 (i + 1) (i + 1) false 2), (AV.i (((((1 + n) + i) + 1) : Nat) : Int))]))), (29, (Blk.c (AV.st [(AV.st [(AV.i ((((1 + n) + i) : Nat) : Int)), (AV.i ((i : Nat) : Int)), (AV.i (((i + 1) : Nat) : Int))])]))), (38, (Blk.c (AV.st [(AV.arr 2 1 (layParts (fun (x : Nat) => (AV.i (0 : Int))) [(0, (AV.i ((i : Nat) : Int))), (1, (AV.i (((i + 5) : Nat) : Int)))]))]))), (1030, (Blk.c (AV.arr (i + 1) 3 (cat i (fun (i1 : Nat) => (AV.st [(AV.i (Int.ofNat ((1 + n) + (0 + i1)))), (AV.i (Int.ofNat (0 + i1))), (AV.i (Int.ofNat ((0 + i1) + 1)))])) (fun (i1 : Nat) => (nthD [(AV.st [(AV.i ((((1 + n) + i) : Nat) : Int)), (AV.i ((i : Nat) : Int)), (AV.i (((i + 1) : Nat) : Int))])] (0 + i1) (AV.v (Value.tuple (List.toArray []))))))))), (1039, (Blk.c (AV.arr (i + 1) 2 (cat i (fun (i1 : Nat) => (AV.arr 2 1 (fun (j : Nat) => (AV.i (W.two (Int.ofNat (0 + i1)) (Int.ofNat ((0 + i1) + 5)) j))))) (fun (i1 : Nat) => (nthD [(AV.arr 2 1 (layParts (fun (x : Nat) => (AV.i (0 : Int))) [(0, (AV.i ((i : Nat) : Int))), (1, (AV.i (((i + 5) : Nat) : Int)))]))] (0 + i1) (AV.v (Value.tuple (List.toArray [])))))))))] [1039, 38, 1030, 29, 2, 6, 30, 39]))))))))) ∧
 ((decide (((i : Nat) : Int) < (200 : Int))) = false →
 (∃ (S2 : St), Ent W.C 173 [] K (St.mk [(2, (AV.ptr 2 [])), (5, (AV.sb true)), (6, (AV.ptr 6 [])), (7, (AV.i ((i : Nat) : Int))), (18, (AV.v (Value.bool false)))] [(2, (Blk.c (W.prA w))), (6, (Blk.c (AV.st [(AV.sl 30 [] 0 i i false 3), (AV.sl 39 [] 0 i i false 2), (AV.i ((((1 + n) + i) : Nat) : Int))]))), (30, (Blk.c (AV.arr i 3 (fun (k : Nat) => (AV.st [(AV.i (Int.ofNat ((1 + n) + k))), (AV.i (Int.ofNat k)), (AV.i (Int.ofNat (k + 1)))]))))), (39, (Blk.c (AV.arr i 2 (fun (k : Nat) => (AV.arr 2 1 (fun (j : Nat) => (AV.i (W.two (Int.ofNat k) (Int.ofNat (k + 5)) j))))))))] [2, 6, 30, 39]) S2 ∧ Holds W.C W.P 173 [] K Φ (cutAt W.C w_nli b_nli [1, 1, 1, 1, 0, 0] S2 (after W.C w_nli b_nli [1, 1, 1, 1, 0, 0] [] lf))))) := by kernel_rfl
theorem nli_C9 (w : PI) (m : Net) (K : Nat) (Φ : Ex → St → Prop) :
  (Holds C P 173 [] K Φ (cutAt C w_nli b_nli [1, 1, 1, 1, 0, 0] (S_li9 w m) (after C w_nli b_nli [1, 1, 1, 1, 0, 0] [] lf))) =
  (Fun W.C W.P 26 [(W.netA false false m)] [] (AV.sb (W.vB (W.toN (W.netA false false m)))) [] ∧
 (True ∧
 (((! (W.vB (W.toN (W.netA false false m)))) = true →
 (Φ Ex.ret (St.mk [(2, (AV.ptr 2 [])), (4, (AV.v (Value.bool false))), (5, (AV.sb true)), (6, (AV.ptr 6 [])), (52, (AV.v (Value.bool true)))] [(2, (Blk.c (W.prA w))), (6, (Blk.c (W.netA false false m)))] [2, 6]))) ∧
 ((! (W.vB (W.toN (W.netA false false m)))) = false →
 (Fun W.C W.P 27 [(W.netA false false m)] [] (AV.sb (W.vB (W.toN (W.netA false false m)))) [] ∧
  (True ∧
  (((! (W.vB (W.toN (W.netA false false m)))) = true →
  (Φ Ex.ret (St.mk [(2, (AV.ptr 2 [])), (4, (AV.v (Value.bool false))), (5, (AV.sb true)), (6, (AV.ptr 6 [])), (52, (AV.v (Value.bool true)))] [(2, (Blk.c (W.prA w))), (6, (Blk.c (W.netA false false m)))] [2, 6]))) ∧
  ((! (W.vB (W.toN (W.netA false false m)))) = false →
  ((((0 : Int) ≤ (0 : Int)) ∧ ((0 : Int) < (2 : Int))) ∧
   (((decide ((W.two (Prod.fst w) (Prod.snd w) 0) ≥ (0 : Int))) = true →
   ((((0 : Int) ≤ (0 : Int)) ∧ ((0 : Int) < (2 : Int))) ∧
    (((decide ((W.two (Prod.fst w) (Prod.snd w) 0) ≤ (1000000000 : Int))) = true →
    ((((0 : Int) ≤ (1 : Int)) ∧ ((1 : Int) < (2 : Int))) ∧
     (((decide ((W.two (Prod.fst w) (Prod.snd w) 1) ≥ (0 : Int))) = true →
     ((((0 : Int) ≤ (1 : Int)) ∧ ((1 : Int) < (2 : Int))) ∧
      (((decide ((W.two (Prod.fst w) (Prod.snd w) 1) ≤ (1000000000 : Int))) = true →
      ((((0 : Int) ≤ (0 : Int)) ∧ ((0 : Int) < (2 : Int))) ∧
       ((((0 : Int) ≤ (1 : Int)) ∧ ((1 : Int) < (2 : Int))) ∧
       (∃ (S2 : St), Ent W.C 173 [] K (St.mk [(2, (AV.ptr 2 [])), (5, (AV.sb true)), (6, (AV.ptr 6 [])), (8, (AV.sb ((W.two (Prod.fst w) (Prod.snd w) 0) != (W.two (Prod.fst w) (Prod.snd w) 1)))), (52, (AV.v (Value.bool false)))] [(2, (Blk.c (W.prA w))), (6, (Blk.c (W.netA false false m)))] [2, 6]) S2 ∧ Holds W.C W.P 173 [] K Φ (cutAt W.C w_nli b_nli [1, 1, 1, 1, 1, 1, 0] S2 (after W.C w_nli b_nli [1, 1, 1, 1, 1, 1, 0] [] lf)))))) ∧
      ((decide ((W.two (Prod.fst w) (Prod.snd w) 1) ≤ (1000000000 : Int))) = false →
      (∃ (S2 : St), Ent W.C 173 [] K (St.mk [(2, (AV.ptr 2 [])), (5, (AV.sb true)), (6, (AV.ptr 6 [])), (8, (AV.v (Value.bool false))), (52, (AV.v (Value.bool false)))] [(2, (Blk.c (W.prA w))), (6, (Blk.c (W.netA false false m)))] [2, 6]) S2 ∧ Holds W.C W.P 173 [] K Φ (cutAt W.C w_nli b_nli [1, 1, 1, 1, 1, 1, 0] S2 (after W.C w_nli b_nli [1, 1, 1, 1, 1, 1, 0] [] lf))))))) ∧
     ((decide ((W.two (Prod.fst w) (Prod.snd w) 1) ≥ (0 : Int))) = false →
     (∃ (S2 : St), Ent W.C 173 [] K (St.mk [(2, (AV.ptr 2 [])), (5, (AV.sb true)), (6, (AV.ptr 6 [])), (8, (AV.v (Value.bool false))), (52, (AV.v (Value.bool false)))] [(2, (Blk.c (W.prA w))), (6, (Blk.c (W.netA false false m)))] [2, 6]) S2 ∧ Holds W.C W.P 173 [] K Φ (cutAt W.C w_nli b_nli [1, 1, 1, 1, 1, 1, 0] S2 (after W.C w_nli b_nli [1, 1, 1, 1, 1, 1, 0] [] lf))))))) ∧
    ((decide ((W.two (Prod.fst w) (Prod.snd w) 0) ≤ (1000000000 : Int))) = false →
    (∃ (S2 : St), Ent W.C 173 [] K (St.mk [(2, (AV.ptr 2 [])), (5, (AV.sb true)), (6, (AV.ptr 6 [])), (8, (AV.v (Value.bool false))), (52, (AV.v (Value.bool false)))] [(2, (Blk.c (W.prA w))), (6, (Blk.c (W.netA false false m)))] [2, 6]) S2 ∧ Holds W.C W.P 173 [] K Φ (cutAt W.C w_nli b_nli [1, 1, 1, 1, 1, 1, 0] S2 (after W.C w_nli b_nli [1, 1, 1, 1, 1, 1, 0] [] lf))))))) ∧
   ((decide ((W.two (Prod.fst w) (Prod.snd w) 0) ≥ (0 : Int))) = false →
   (∃ (S2 : St), Ent W.C 173 [] K (St.mk [(2, (AV.ptr 2 [])), (5, (AV.sb true)), (6, (AV.ptr 6 [])), (8, (AV.v (Value.bool false))), (52, (AV.v (Value.bool false)))] [(2, (Blk.c (W.prA w))), (6, (Blk.c (W.netA false false m)))] [2, 6]) S2 ∧ Holds W.C W.P 173 [] K Φ (cutAt W.C w_nli b_nli [1, 1, 1, 1, 1, 1, 0] S2 (after W.C w_nli b_nli [1, 1, 1, 1, 1, 1, 0] [] lf)))))))))))))) := by kernel_rfl
theorem nli_C12 (w : PI) (m : Net) (r : Bool) (K : Nat) (Φ : Ex → St → Prop) :
  (Holds C P 173 [] K Φ (cutAt C w_nli b_nli [1, 1, 1, 1, 1, 1, 0] (S_li12 w m r) (after C w_nli b_nli [1, 1, 1, 1, 1, 1, 0] [] lf))) =
  ((((0 : Int) ≤ (0 : Int)) ∧ ((0 : Int) < (2 : Int))) ∧
 ((((0 : Int) ≤ (1 : Int)) ∧ ((1 : Int) < (2 : Int))) ∧
 (Fun W.C W.P 13 [(W.netA false false m), (AV.i (W.two (Prod.fst w) (Prod.snd w) 0)), (AV.i (W.two (Prod.fst w) (Prod.snd w) 1))] [] (AV.st [(W.netA false false (W.sendN (W.toN (W.netA false false m)) (W.two (Prod.fst w) (Prod.snd w) 0) (W.two (Prod.fst w) (Prod.snd w) 1))), (AV.i (W.sendI (W.toN (W.netA false false m)) (W.two (Prod.fst w) (Prod.snd w) 0) (W.two (Prod.fst w) (Prod.snd w) 1))), (AV.i (W.sendE (W.toN (W.netA false false m)) (W.two (Prod.fst w) (Prod.snd w) 0) (W.two (Prod.fst w) (Prod.snd w) 1)))]) [] ∧
 (Fun W.C W.P 21 [(W.netA false false m), (AV.i (2 : Int)), (W.prA w)] [] (AV.st [(W.netA false false (W.doneN (W.toN (W.netA false false m)) (2 : Int) ((W.two (Prod.fst w) (Prod.snd w) 0), (W.two (Prod.fst w) (Prod.snd w) 1)))), (AV.st [(AV.i (0 : Int)), (AV.i (0 : Int)), (AV.i (0 : Int))]), (AV.i (W.doneE (W.toN (W.netA false false m)) (2 : Int) ((W.two (Prod.fst w) (Prod.snd w) 0), (W.two (Prod.fst w) (Prod.snd w) 1))))]) [] ∧
 ((((0 : Int) ≤ (0 : Int)) ∧ ((0 : Int) < (2 : Int))) ∧
 ((((0 : Int) ≤ (1 : Int)) ∧ ((1 : Int) < (2 : Int))) ∧
 (Fun W.C W.P 13 [(AV.st [(AV.dat 0 true 0 (fun (x : Nat) => (AV.v (Value.tuple (List.toArray []))))), (AV.dat 0 true 0 (fun (x : Nat) => (AV.v (Value.tuple (List.toArray []))))), (AV.i (1 : Int))]), (AV.i (W.two (Prod.fst w) (Prod.snd w) 0)), (AV.i (W.two (Prod.fst w) (Prod.snd w) 1))] [] (AV.st [(W.netA false false (W.sendN (W.toN (AV.st [(AV.dat 0 true 0 (fun (x : Nat) => (AV.v (Value.tuple (List.toArray []))))), (AV.dat 0 true 0 (fun (x : Nat) => (AV.v (Value.tuple (List.toArray []))))), (AV.i (1 : Int))])) (W.two (Prod.fst w) (Prod.snd w) 0) (W.two (Prod.fst w) (Prod.snd w) 1))), (AV.i (W.sendI (W.toN (AV.st [(AV.dat 0 true 0 (fun (x : Nat) => (AV.v (Value.tuple (List.toArray []))))), (AV.dat 0 true 0 (fun (x : Nat) => (AV.v (Value.tuple (List.toArray []))))), (AV.i (1 : Int))])) (W.two (Prod.fst w) (Prod.snd w) 0) (W.two (Prod.fst w) (Prod.snd w) 1))), (AV.i (W.sendE (W.toN (AV.st [(AV.dat 0 true 0 (fun (x : Nat) => (AV.v (Value.tuple (List.toArray []))))), (AV.dat 0 true 0 (fun (x : Nat) => (AV.v (Value.tuple (List.toArray []))))), (AV.i (1 : Int))])) (W.two (Prod.fst w) (Prod.snd w) 0) (W.two (Prod.fst w) (Prod.snd w) 1)))]) [] ∧
 (((W.ShK) ∧ (((true = true) ∧ (true = true)) ∧ (((true = true) ∧ (true = true)) ∧ True))) ∧
 (((W.ShK) ∧ ((W.ShK) ∧ (((true = true) ∧ (true = true)) ∧ True))) ∧
 (((W.ShK) ∧ (((true = true) ∧ (true = true)) ∧ (((true = true) ∧ (true = true)) ∧ True))) ∧
 (∃ (S2 : St), Ent W.C 173 [] K (St.mk [(2, (AV.ptr 2 [])), (5, (AV.sb true)), (6, (AV.ptr 6 [])), (8, (AV.sb r)), (9, (AV.ptr 9 [])), (10, (AV.ptr 10 [])), (11, (AV.ptr 11 []))] [(2, (Blk.c (W.prA w))), (6, (Blk.c (W.netA false false m))), (9, (Blk.c (AV.st [(W.netA false false (W.sendN (W.toN (W.netA false false m)) (W.two (Prod.fst w) (Prod.snd w) 0) (W.two (Prod.fst w) (Prod.snd w) 1))), (AV.i (W.sendI (W.toN (W.netA false false m)) (W.two (Prod.fst w) (Prod.snd w) 0) (W.two (Prod.fst w) (Prod.snd w) 1))), (AV.i (W.sendE (W.toN (W.netA false false m)) (W.two (Prod.fst w) (Prod.snd w) 0) (W.two (Prod.fst w) (Prod.snd w) 1)))]))), (10, (Blk.c (AV.st [(W.netA false false (W.doneN (W.toN (W.netA false false m)) (2 : Int) ((W.two (Prod.fst w) (Prod.snd w) 0), (W.two (Prod.fst w) (Prod.snd w) 1)))), (AV.st [(AV.i (0 : Int)), (AV.i (0 : Int)), (AV.i (0 : Int))]), (AV.i (W.doneE (W.toN (W.netA false false m)) (2 : Int) ((W.two (Prod.fst w) (Prod.snd w) 0), (W.two (Prod.fst w) (Prod.snd w) 1))))]))), (11, (Blk.c (AV.st [(W.netA false false (W.sendN (W.toN (AV.st [(AV.dat 0 true 0 (fun (x : Nat) => (AV.v (Value.tuple (List.toArray []))))), (AV.dat 0 true 0 (fun (x : Nat) => (AV.v (Value.tuple (List.toArray []))))), (AV.i (1 : Int))])) (W.two (Prod.fst w) (Prod.snd w) 0) (W.two (Prod.fst w) (Prod.snd w) 1))), (AV.i (W.sendI (W.toN (AV.st [(AV.dat 0 true 0 (fun (x : Nat) => (AV.v (Value.tuple (List.toArray []))))), (AV.dat 0 true 0 (fun (x : Nat) => (AV.v (Value.tuple (List.toArray []))))), (AV.i (1 : Int))])) (W.two (Prod.fst w) (Prod.snd w) 0) (W.two (Prod.fst w) (Prod.snd w) 1))), (AV.i (W.sendE (W.toN (AV.st [(AV.dat 0 true 0 (fun (x : Nat) => (AV.v (Value.tuple (List.toArray []))))), (AV.dat 0 true 0 (fun (x : Nat) => (AV.v (Value.tuple (List.toArray []))))), (AV.i (1 : Int))])) (W.two (Prod.fst w) (Prod.snd w) 0) (W.two (Prod.fst w) (Prod.snd w) 1)))])))] [11, 10, 9, 2, 6]) S2 ∧ Holds W.C W.P 173 [] K Φ (cutAt W.C w_nli b_nli [1, 1, 1, 1, 1, 1, 1, 0, 0] S2 (after W.C w_nli b_nli [1, 1, 1, 1, 1, 1, 1, 0, 0] [] lf))))))))))))) := by kernel_rfl
theorem nli_C13 (w : PI) (m : Net) (r : Bool) (a : Net × Int × Int) (c : Net × Pk × Int) (o : Net × Int × Int) (K : Nat) (Φ : Ex → St → Prop) :
  (Holds C P 173 [] K Φ (cutAt C w_nli b_nli [1, 1, 1, 1, 1, 1, 1, 0, 0] (S_li13 w m r a c o) (after C w_nli b_nli [1, 1, 1, 1, 1, 1, 1, 0, 0] [] lf))) =
  (((!r) = true →
 ((((Prod.snd (Prod.snd a)) == (1 : Int)) = true →
  ((((Prod.snd (Prod.snd c)) == (1 : Int)) = true →
   (Fun W.C W.P 21 [(W.netA false false m), (AV.i (3 : Int)), (W.prA w)] [] (AV.st [(W.netA false false (W.doneN (W.toN (W.netA false false m)) (3 : Int) ((W.two (Prod.fst w) (Prod.snd w) 0), (W.two (Prod.fst w) (Prod.snd w) 1)))), (AV.st [(AV.i (0 : Int)), (AV.i (0 : Int)), (AV.i (0 : Int))]), (AV.i (W.doneE (W.toN (W.netA false false m)) (3 : Int) ((W.two (Prod.fst w) (Prod.snd w) 0), (W.two (Prod.fst w) (Prod.snd w) 1))))]) [] ∧
    ((((W.doneE (W.toN (W.netA false false m)) (3 : Int) ((W.two (Prod.fst w) (Prod.snd w) 0), (W.two (Prod.fst w) (Prod.snd w) 1))) == (1 : Int)) = true →
    ((((Prod.snd (Prod.snd o)) == (1 : Int)) = true →
     (Fun W.C W.P 15 [(W.netA false false (Prod.fst a)), (W.netA false false m)] [] (AV.sb (W.sameB (W.toN (W.netA false false (Prod.fst a))) (W.toN (W.netA false false m)))) [] ∧
      (True ∧
      (((W.sameB (W.toN (W.netA false false (Prod.fst a))) (W.toN (W.netA false false m))) = true →
      (Φ Ex.ret (St.mk [(2, (AV.ptr 2 [])), (4, (AV.sb true)), (5, (AV.sb true)), (6, (AV.ptr 6 [])), (8, (AV.sb r)), (9, (AV.ptr 9 [])), (10, (AV.ptr 10 [])), (11, (AV.ptr 11 [])), (94, (AV.v (Value.bool true)))] [(2, (Blk.c (W.prA w))), (6, (Blk.c (W.netA false false m))), (9, (Blk.c (AV.st [(W.netA false false (Prod.fst a)), (AV.i (Prod.fst (Prod.snd a))), (AV.i (Prod.snd (Prod.snd a)))]))), (10, (Blk.c (AV.st [(W.netA false false (Prod.fst c)), (W.pkA (Prod.fst (Prod.snd c))), (AV.i (Prod.snd (Prod.snd c)))]))), (11, (Blk.c (AV.st [(W.netA false false (Prod.fst o)), (AV.i (Prod.fst (Prod.snd o))), (AV.i (Prod.snd (Prod.snd o)))])))] [2, 6, 9, 10, 11]))) ∧
      ((W.sameB (W.toN (W.netA false false (Prod.fst a))) (W.toN (W.netA false false m))) = false →
      (Φ Ex.ret (St.mk [(2, (AV.ptr 2 [])), (4, (AV.v (Value.bool false))), (5, (AV.sb true)), (6, (AV.ptr 6 [])), (8, (AV.sb r)), (9, (AV.ptr 9 [])), (10, (AV.ptr 10 [])), (11, (AV.ptr 11 [])), (94, (AV.v (Value.bool true)))] [(2, (Blk.c (W.prA w))), (6, (Blk.c (W.netA false false m))), (9, (Blk.c (AV.st [(W.netA false false (Prod.fst a)), (AV.i (Prod.fst (Prod.snd a))), (AV.i (Prod.snd (Prod.snd a)))]))), (10, (Blk.c (AV.st [(W.netA false false (Prod.fst c)), (W.pkA (Prod.fst (Prod.snd c))), (AV.i (Prod.snd (Prod.snd c)))]))), (11, (Blk.c (AV.st [(W.netA false false (Prod.fst o)), (AV.i (Prod.fst (Prod.snd o))), (AV.i (Prod.snd (Prod.snd o)))])))] [2, 6, 9, 10, 11]))))))) ∧
     (((Prod.snd (Prod.snd o)) == (1 : Int)) = false →
     (Φ Ex.ret (St.mk [(2, (AV.ptr 2 [])), (4, (AV.v (Value.bool false))), (5, (AV.sb true)), (6, (AV.ptr 6 [])), (8, (AV.sb r)), (9, (AV.ptr 9 [])), (10, (AV.ptr 10 [])), (11, (AV.ptr 11 [])), (94, (AV.v (Value.bool true)))] [(2, (Blk.c (W.prA w))), (6, (Blk.c (W.netA false false m))), (9, (Blk.c (AV.st [(W.netA false false (Prod.fst a)), (AV.i (Prod.fst (Prod.snd a))), (AV.i (Prod.snd (Prod.snd a)))]))), (10, (Blk.c (AV.st [(W.netA false false (Prod.fst c)), (W.pkA (Prod.fst (Prod.snd c))), (AV.i (Prod.snd (Prod.snd c)))]))), (11, (Blk.c (AV.st [(W.netA false false (Prod.fst o)), (AV.i (Prod.fst (Prod.snd o))), (AV.i (Prod.snd (Prod.snd o)))])))] [2, 6, 9, 10, 11]))))) ∧
    (((W.doneE (W.toN (W.netA false false m)) (3 : Int) ((W.two (Prod.fst w) (Prod.snd w) 0), (W.two (Prod.fst w) (Prod.snd w) 1))) == (1 : Int)) = false →
    (Φ Ex.ret (St.mk [(2, (AV.ptr 2 [])), (4, (AV.v (Value.bool false))), (5, (AV.sb true)), (6, (AV.ptr 6 [])), (8, (AV.sb r)), (9, (AV.ptr 9 [])), (10, (AV.ptr 10 [])), (11, (AV.ptr 11 [])), (94, (AV.v (Value.bool true)))] [(2, (Blk.c (W.prA w))), (6, (Blk.c (W.netA false false m))), (9, (Blk.c (AV.st [(W.netA false false (Prod.fst a)), (AV.i (Prod.fst (Prod.snd a))), (AV.i (Prod.snd (Prod.snd a)))]))), (10, (Blk.c (AV.st [(W.netA false false (Prod.fst c)), (W.pkA (Prod.fst (Prod.snd c))), (AV.i (Prod.snd (Prod.snd c)))]))), (11, (Blk.c (AV.st [(W.netA false false (Prod.fst o)), (AV.i (Prod.fst (Prod.snd o))), (AV.i (Prod.snd (Prod.snd o)))])))] [2, 6, 9, 10, 11])))))) ∧
   (((Prod.snd (Prod.snd c)) == (1 : Int)) = false →
   (Φ Ex.ret (St.mk [(2, (AV.ptr 2 [])), (4, (AV.v (Value.bool false))), (5, (AV.sb true)), (6, (AV.ptr 6 [])), (8, (AV.sb r)), (9, (AV.ptr 9 [])), (10, (AV.ptr 10 [])), (11, (AV.ptr 11 [])), (94, (AV.v (Value.bool true)))] [(2, (Blk.c (W.prA w))), (6, (Blk.c (W.netA false false m))), (9, (Blk.c (AV.st [(W.netA false false (Prod.fst a)), (AV.i (Prod.fst (Prod.snd a))), (AV.i (Prod.snd (Prod.snd a)))]))), (10, (Blk.c (AV.st [(W.netA false false (Prod.fst c)), (W.pkA (Prod.fst (Prod.snd c))), (AV.i (Prod.snd (Prod.snd c)))]))), (11, (Blk.c (AV.st [(W.netA false false (Prod.fst o)), (AV.i (Prod.fst (Prod.snd o))), (AV.i (Prod.snd (Prod.snd o)))])))] [2, 6, 9, 10, 11]))))) ∧
  (((Prod.snd (Prod.snd a)) == (1 : Int)) = false →
  (Φ Ex.ret (St.mk [(2, (AV.ptr 2 [])), (4, (AV.v (Value.bool false))), (5, (AV.sb true)), (6, (AV.ptr 6 [])), (8, (AV.sb r)), (9, (AV.ptr 9 [])), (10, (AV.ptr 10 [])), (11, (AV.ptr 11 [])), (94, (AV.v (Value.bool true)))] [(2, (Blk.c (W.prA w))), (6, (Blk.c (W.netA false false m))), (9, (Blk.c (AV.st [(W.netA false false (Prod.fst a)), (AV.i (Prod.fst (Prod.snd a))), (AV.i (Prod.snd (Prod.snd a)))]))), (10, (Blk.c (AV.st [(W.netA false false (Prod.fst c)), (W.pkA (Prod.fst (Prod.snd c))), (AV.i (Prod.snd (Prod.snd c)))]))), (11, (Blk.c (AV.st [(W.netA false false (Prod.fst o)), (AV.i (Prod.fst (Prod.snd o))), (AV.i (Prod.snd (Prod.snd o)))])))] [2, 6, 9, 10, 11]))))) ∧
 ((!r) = false →
 (∃ (S2 : St), Ent W.C 173 [] K (St.mk [(2, (AV.ptr 2 [])), (5, (AV.sb true)), (6, (AV.ptr 6 [])), (8, (AV.sb r)), (9, (AV.ptr 9 [])), (10, (AV.ptr 10 [])), (11, (AV.ptr 11 [])), (94, (AV.v (Value.bool false)))] [(2, (Blk.c (W.prA w))), (6, (Blk.c (W.netA false false m))), (9, (Blk.c (AV.st [(W.netA false false (Prod.fst a)), (AV.i (Prod.fst (Prod.snd a))), (AV.i (Prod.snd (Prod.snd a)))]))), (10, (Blk.c (AV.st [(W.netA false false (Prod.fst c)), (W.pkA (Prod.fst (Prod.snd c))), (AV.i (Prod.snd (Prod.snd c)))]))), (11, (Blk.c (AV.st [(W.netA false false (Prod.fst o)), (AV.i (Prod.fst (Prod.snd o))), (AV.i (Prod.snd (Prod.snd o)))])))] [2, 6, 9, 10, 11]) S2 ∧ Holds W.C W.P 173 [] K Φ (cutAt W.C w_nli b_nli [1, 1, 1, 1, 1, 1, 1, 1, 0, 0] S2 (after W.C w_nli b_nli [1, 1, 1, 1, 1, 1, 1, 1, 0, 0] [] lf))))) := by kernel_rfl
theorem nli_C15 (w : PI) (m : Net) (r : Bool) (a : Net × Int × Int) (c : Net × Pk × Int) (o : Net × Int × Int) (K : Nat) (Φ : Ex → St → Prop) :
  (Holds C P 173 [] K Φ (cutAt C w_nli b_nli [1, 1, 1, 1, 1, 1, 1, 1, 0, 0] (S_li13 w m r a c o) (after C w_nli b_nli [1, 1, 1, 1, 1, 1, 1, 1, 0, 0] [] lf))) =
  ((((Prod.snd (Prod.snd a)) != (2 : Int)) = true →
 (Φ Ex.ret (St.mk [(2, (AV.ptr 2 [])), (4, (AV.v (Value.bool false))), (5, (AV.sb true)), (6, (AV.ptr 6 [])), (8, (AV.sb r)), (9, (AV.ptr 9 [])), (10, (AV.ptr 10 [])), (11, (AV.ptr 11 [])), (153, (AV.v (Value.bool true)))] [(2, (Blk.c (W.prA w))), (6, (Blk.c (W.netA false false m))), (9, (Blk.c (AV.st [(W.netA false false (Prod.fst a)), (AV.i (Prod.fst (Prod.snd a))), (AV.i (Prod.snd (Prod.snd a)))]))), (10, (Blk.c (AV.st [(W.netA false false (Prod.fst c)), (W.pkA (Prod.fst (Prod.snd c))), (AV.i (Prod.snd (Prod.snd c)))]))), (11, (Blk.c (AV.st [(W.netA false false (Prod.fst o)), (AV.i (Prod.fst (Prod.snd o))), (AV.i (Prod.snd (Prod.snd o)))])))] [2, 6, 9, 10, 11]))) ∧
 (((Prod.snd (Prod.snd a)) != (2 : Int)) = false →
 ((((Prod.snd (Prod.snd o)) != (0 : Int)) = true →
  (Φ Ex.ret (St.mk [(2, (AV.ptr 2 [])), (4, (AV.v (Value.bool false))), (5, (AV.sb true)), (6, (AV.ptr 6 [])), (8, (AV.sb r)), (9, (AV.ptr 9 [])), (10, (AV.ptr 10 [])), (11, (AV.ptr 11 [])), (153, (AV.v (Value.bool true)))] [(2, (Blk.c (W.prA w))), (6, (Blk.c (W.netA false false m))), (9, (Blk.c (AV.st [(W.netA false false (Prod.fst a)), (AV.i (Prod.fst (Prod.snd a))), (AV.i (Prod.snd (Prod.snd a)))]))), (10, (Blk.c (AV.st [(W.netA false false (Prod.fst c)), (W.pkA (Prod.fst (Prod.snd c))), (AV.i (Prod.snd (Prod.snd c)))]))), (11, (Blk.c (AV.st [(W.netA false false (Prod.fst o)), (AV.i (Prod.fst (Prod.snd o))), (AV.i (Prod.snd (Prod.snd o)))])))] [2, 6, 9, 10, 11]))) ∧
  (((Prod.snd (Prod.snd o)) != (0 : Int)) = false →
  ((((0 : Int) ≤ (0 : Int)) ∧ ((0 : Int) < (((List.length (W.Net.fly m)) : Nat) : Int))) ∧
   (Fun W.C W.P 21 [(W.netA false false m), (AV.i (1 : Int)), (AV.arr 2 1 (layParts (fun (x : Nat) => (AV.i (0 : Int))) [(0, (AV.i (Prod.fst (W.kAt (W.Net.fly m) 0)))), (1, (AV.i (0 : Int)))]))] [] (AV.st [(W.netA false false (W.doneN (W.toN (W.netA false false m)) (1 : Int) ((Prod.fst (W.kAt (W.Net.fly m) 0)), (0 : Int)))), (AV.st [(AV.i (0 : Int)), (AV.i (0 : Int)), (AV.i (0 : Int))]), (AV.i (W.doneE (W.toN (W.netA false false m)) (1 : Int) ((Prod.fst (W.kAt (W.Net.fly m) 0)), (0 : Int))))]) [] ∧
   ((((W.doneE (W.toN (W.netA false false m)) (1 : Int) ((Prod.fst (W.kAt (W.Net.fly m) 0)), (0 : Int))) != (2 : Int)) = true →
   (Φ Ex.ret (St.mk [(2, (AV.ptr 2 [])), (4, (AV.v (Value.bool false))), (5, (AV.sb true)), (6, (AV.ptr 6 [])), (8, (AV.sb r)), (9, (AV.ptr 9 [])), (10, (AV.ptr 10 [])), (11, (AV.ptr 11 [])), (153, (AV.v (Value.bool true)))] [(2, (Blk.c (W.prA w))), (6, (Blk.c (W.netA false false m))), (9, (Blk.c (AV.st [(W.netA false false (Prod.fst a)), (AV.i (Prod.fst (Prod.snd a))), (AV.i (Prod.snd (Prod.snd a)))]))), (10, (Blk.c (AV.st [(W.netA false false (Prod.fst c)), (W.pkA (Prod.fst (Prod.snd c))), (AV.i (Prod.snd (Prod.snd c)))]))), (11, (Blk.c (AV.st [(W.netA false false (Prod.fst o)), (AV.i (Prod.fst (Prod.snd o))), (AV.i (Prod.snd (Prod.snd o)))])))] [2, 6, 9, 10, 11]))) ∧
   (((W.doneE (W.toN (W.netA false false m)) (1 : Int) ((Prod.fst (W.kAt (W.Net.fly m) 0)), (0 : Int))) != (2 : Int)) = false →
   ((((0 : Int) ≤ (0 : Int)) ∧ ((0 : Int) < (2 : Int))) ∧
    ((((0 : Int) ≤ (1 : Int)) ∧ ((1 : Int) < (2 : Int))) ∧
    (Fun W.C W.P 13 [(AV.st [(AV.dat 0 true 0 (fun (x : Nat) => (AV.v (Value.tuple (List.toArray []))))), (AV.dat 0 true 0 (fun (x : Nat) => (AV.v (Value.tuple (List.toArray []))))), (AV.i (1000000000 : Int))]), (AV.i (W.two (Prod.fst w) (Prod.snd w) 0)), (AV.i (W.two (Prod.fst w) (Prod.snd w) 1))] [] (AV.st [(W.netA false false (W.sendN (W.toN (AV.st [(AV.dat 0 true 0 (fun (x : Nat) => (AV.v (Value.tuple (List.toArray []))))), (AV.dat 0 true 0 (fun (x : Nat) => (AV.v (Value.tuple (List.toArray []))))), (AV.i (1000000000 : Int))])) (W.two (Prod.fst w) (Prod.snd w) 0) (W.two (Prod.fst w) (Prod.snd w) 1))), (AV.i (W.sendI (W.toN (AV.st [(AV.dat 0 true 0 (fun (x : Nat) => (AV.v (Value.tuple (List.toArray []))))), (AV.dat 0 true 0 (fun (x : Nat) => (AV.v (Value.tuple (List.toArray []))))), (AV.i (1000000000 : Int))])) (W.two (Prod.fst w) (Prod.snd w) 0) (W.two (Prod.fst w) (Prod.snd w) 1))), (AV.i (W.sendE (W.toN (AV.st [(AV.dat 0 true 0 (fun (x : Nat) => (AV.v (Value.tuple (List.toArray []))))), (AV.dat 0 true 0 (fun (x : Nat) => (AV.v (Value.tuple (List.toArray []))))), (AV.i (1000000000 : Int))])) (W.two (Prod.fst w) (Prod.snd w) 0) (W.two (Prod.fst w) (Prod.snd w) 1)))]) [] ∧
    ((((W.sendE (W.toN (AV.st [(AV.dat 0 true 0 (fun (x : Nat) => (AV.v (Value.tuple (List.toArray []))))), (AV.dat 0 true 0 (fun (x : Nat) => (AV.v (Value.tuple (List.toArray []))))), (AV.i (1000000000 : Int))])) (W.two (Prod.fst w) (Prod.snd w) 0) (W.two (Prod.fst w) (Prod.snd w) 1)) != (2 : Int)) = true →
    (Φ Ex.ret (St.mk [(2, (AV.ptr 2 [])), (4, (AV.v (Value.bool false))), (5, (AV.sb true)), (6, (AV.ptr 6 [])), (8, (AV.sb r)), (9, (AV.ptr 9 [])), (10, (AV.ptr 10 [])), (11, (AV.ptr 11 [])), (153, (AV.v (Value.bool true)))] [(2, (Blk.c (W.prA w))), (6, (Blk.c (W.netA false false m))), (9, (Blk.c (AV.st [(W.netA false false (Prod.fst a)), (AV.i (Prod.fst (Prod.snd a))), (AV.i (Prod.snd (Prod.snd a)))]))), (10, (Blk.c (AV.st [(W.netA false false (Prod.fst c)), (W.pkA (Prod.fst (Prod.snd c))), (AV.i (Prod.snd (Prod.snd c)))]))), (11, (Blk.c (AV.st [(W.netA false false (Prod.fst o)), (AV.i (Prod.fst (Prod.snd o))), (AV.i (Prod.snd (Prod.snd o)))])))] [2, 6, 9, 10, 11]))) ∧
    (((W.sendE (W.toN (AV.st [(AV.dat 0 true 0 (fun (x : Nat) => (AV.v (Value.tuple (List.toArray []))))), (AV.dat 0 true 0 (fun (x : Nat) => (AV.v (Value.tuple (List.toArray []))))), (AV.i (1000000000 : Int))])) (W.two (Prod.fst w) (Prod.snd w) 0) (W.two (Prod.fst w) (Prod.snd w) 1)) != (2 : Int)) = false →
    (∃ (S2 : St), Ent W.C 173 [] K (St.mk [(2, (AV.ptr 2 [])), (5, (AV.sb true)), (6, (AV.ptr 6 [])), (8, (AV.sb r)), (9, (AV.ptr 9 [])), (10, (AV.ptr 10 [])), (11, (AV.ptr 11 [])), (153, (AV.v (Value.bool false)))] [(2, (Blk.c (W.prA w))), (6, (Blk.c (W.netA false false m))), (9, (Blk.c (AV.st [(W.netA false false (Prod.fst a)), (AV.i (Prod.fst (Prod.snd a))), (AV.i (Prod.snd (Prod.snd a)))]))), (10, (Blk.c (AV.st [(W.netA false false (Prod.fst c)), (W.pkA (Prod.fst (Prod.snd c))), (AV.i (Prod.snd (Prod.snd c)))]))), (11, (Blk.c (AV.st [(W.netA false false (Prod.fst o)), (AV.i (Prod.fst (Prod.snd o))), (AV.i (Prod.snd (Prod.snd o)))])))] [2, 6, 9, 10, 11]) S2 ∧ Holds W.C W.P 173 [] K Φ (cutAt W.C w_nli b_nli [1, 1, 1, 1, 1, 1, 1, 1, 1, 0] S2 (after W.C w_nli b_nli [1, 1, 1, 1, 1, 1, 1, 1, 1, 0] [] lf)))))))))))))))) := by kernel_rfl
theorem nli_C17 (w : PI) (m : Net) (c : Net × Pk × Int) (K : Nat) (Φ : Ex → St → Prop) :
  (Holds C P 173 [] K Φ (cutAt C w_nli b_nli [1, 1, 1, 1, 1, 1, 1, 1, 1, 0] (S_li17 w m c) (after C w_nli b_nli [1, 1, 1, 1, 1, 1, 1, 1, 1, 0] [] lf))) =
  ((((0 : Int) ≤ (0 : Int)) ∧ ((0 : Int) < (2 : Int))) ∧
 ((((0 : Int) ≤ (1 : Int)) ∧ ((1 : Int) < (2 : Int))) ∧
 (Fun W.C W.P 19 [(W.netA false false m), (AV.i (W.two (Prod.fst w) (Prod.snd w) 0)), (AV.i (W.two (Prod.fst w) (Prod.snd w) 1))] [] (AV.sb (W.reachN (W.toN (W.netA false false m)) (W.two (Prod.fst w) (Prod.snd w) 0) (W.two (Prod.fst w) (Prod.snd w) 1))) [] ∧
 (True ∧
 (((((Prod.snd (Prod.snd c)) == (2 : Int)) == (W.reachN (W.toN (W.netA false false m)) (W.two (Prod.fst w) (Prod.snd w) 0) (W.two (Prod.fst w) (Prod.snd w) 1))) = true →
 (Fun W.C W.P 15 [(W.netA false false (Prod.fst c)), (W.netA false false m)] [] (AV.sb (W.sameB (W.toN (W.netA false false (Prod.fst c))) (W.toN (W.netA false false m)))) [] ∧
  (True ∧
  (((W.sameB (W.toN (W.netA false false (Prod.fst c))) (W.toN (W.netA false false m))) = true →
  (Φ Ex.ret (St.mk [(2, (AV.ptr 2 [])), (4, (AV.sb true)), (5, (AV.sb true)), (6, (AV.ptr 6 [])), (10, (AV.ptr 10 []))] [(2, (Blk.c (W.prA w))), (6, (Blk.c (W.netA false false m))), (10, (Blk.c (AV.st [(W.netA false false (Prod.fst c)), (W.pkA (Prod.fst (Prod.snd c))), (AV.i (Prod.snd (Prod.snd c)))])))] [2, 6, 10]))) ∧
  ((W.sameB (W.toN (W.netA false false (Prod.fst c))) (W.toN (W.netA false false m))) = false →
  (Φ Ex.ret (St.mk [(2, (AV.ptr 2 [])), (4, (AV.v (Value.bool false))), (5, (AV.sb true)), (6, (AV.ptr 6 [])), (10, (AV.ptr 10 []))] [(2, (Blk.c (W.prA w))), (6, (Blk.c (W.netA false false m))), (10, (Blk.c (AV.st [(W.netA false false (Prod.fst c)), (W.pkA (Prod.fst (Prod.snd c))), (AV.i (Prod.snd (Prod.snd c)))])))] [2, 6, 10]))))))) ∧
 ((((Prod.snd (Prod.snd c)) == (2 : Int)) == (W.reachN (W.toN (W.netA false false m)) (W.two (Prod.fst w) (Prod.snd w) 0) (W.two (Prod.fst w) (Prod.snd w) 1))) = false →
 (Φ Ex.ret (St.mk [(2, (AV.ptr 2 [])), (4, (AV.v (Value.bool false))), (5, (AV.sb true)), (6, (AV.ptr 6 [])), (10, (AV.ptr 10 []))] [(2, (Blk.c (W.prA w))), (6, (Blk.c (W.netA false false m))), (10, (Blk.c (AV.st [(W.netA false false (Prod.fst c)), (W.pkA (Prod.fst (Prod.snd c))), (AV.i (Prod.snd (Prod.snd c)))])))] [2, 6, 10])))))))) := by kernel_rfl
theorem fullK_at {n k : Nat} (hk : k < 200) : kAt (fullN n).fly k = fulK n k := by
  rw [kAt_lt (by simp [fullN]; exact hk)]; simp [fullN]
theorem fullP_at {n k : Nat} (hk : k < 200) : pAt (fullN n).cuts k = fulP k := by
  rw [pAt_lt (by simp [fullN]; exact hk)]; simp [fullN]
theorem full_len (n : Nat) : (fullN n).fly.length = 200 ∧ (fullN n).cuts.length = 200 := by simp [fullN]
theorem full_ok {n : Nat} (hn : n < 256) : VN (fullN n) := by
  obtain ⟨l1, l2⟩ := full_len n
  refine ⟨List.pairwise_iff_getElem.2 fun j k hj hk hjk => ?_, fun p hp => ?_, List.pairwise_iff_getElem.2 fun j k hj hk hjk => ?_, fun x hx => ?_, by omega, by omega, ?_, ?_⟩
  · rw [← kAt_lt hj, ← kAt_lt hk, fullK_at (by omega), fullK_at (by omega)]
    show ((1 + n + j : Nat) : Int) < ((1 + n + k : Nat) : Int); omega
  · obtain ⟨k, hk, rfl⟩ := List.getElem_of_mem hp
    rw [← kAt_lt hk, fullK_at (by omega)]
    refine ⟨?_, ?_, ?_⟩
    · show 1 ≤ ((1 + n + k : Nat) : Int); omega
    · show ((1 + n + k : Nat) : Int) < ((1 + n + 200 : Nat) : Int); omega
    · show partsB ((k : Nat) : Int) ((k + 1 : Nat) : Int) = true
      simp only [partsB, Bool.and_eq_true, decide_eq_true_eq]; omega
  · rw [← pAt_lt hj, ← pAt_lt hk, fullP_at (by omega), fullP_at (by omega), ordP_lt]
    left
    show ((j : Nat) : Int) < ((k : Nat) : Int); omega
  · obtain ⟨k, hk, rfl⟩ := List.getElem_of_mem hx
    rw [← pAt_lt hk, fullP_at (by omega)]
    have hp : partsB ((k : Nat) : Int) ((k + 5 : Nat) : Int) = true := by simp only [partsB, Bool.and_eq_true, decide_eq_true_eq]; omega
    refine ⟨hp, ?_⟩
    show fulP k = ofI ((k : Nat) : Int) ((k + 5 : Nat) : Int)
    unfold ofI fulP
    rw [Int.min_eq_left (by omega), Int.max_eq_right (by omega)]
  · show 1 ≤ ((1 + n + 200 : Nat) : Int); omega
  · show ((1 + n + 200 : Nat) : Int) ≤ 1000000000; omega
theorem full_add (n : Nat) : addB (fullN n) = false := Bool.eq_false_iff.2 fun h => by have := (addB_t.1 h).1; have := (full_len n).1; omega
theorem parts_right (w : PI) : (decide (w.1 ≥ 0) && decide (w.1 ≤ 1000000000) && decide (w.2 ≥ 0) && decide (w.2 ≤ 1000000000) && (w.1 != w.2)) = partsB w.1 w.2 := by
  unfold partsB bne
  rw [beq_dec]
  rw [Bool.eq_iff_iff]
  simp only [Bool.and_eq_true, decide_eq_true_eq, Bool.not_eq_true', decide_eq_false_iff_not]
  omega
theorem sev_same {n : Net} (h : ¬ n.cuts.length < 200) (a b : Int) : sevN n a b = n := by
  unfold sevN; rw [decide_eq_false h, Bool.and_false]; rfl
theorem nli_fun (w : PI) (n : Nat) (hn : n < 256) : Fun C P F_nli [prA w, u8 n] [] (.sb true) [] := by
  refine in_nli (W := w_nli) rfl 0 (by simp) rfl (fun id h => absurd rfl h) ?_
  refine of_eq (nli_A w n 0 _) ⟨sanity_fun, trivial, (by first | omega | decide | (unfold I64; omega)), (by first | omega | decide | (unfold I64; omega)), by simp, ?_⟩
  refine loop_inv (W := w_nli) ctx mixed ok_nli_0 (I_li w n) (fun i => i ≤ 200) (fun i => 200 - i) 0 (Nat.zero_le _) ?_ fun i hi => ?_
  · exact ent_of [(2, 2), (6, 6)] rfl (tm_cons rfl (sm_ptr rfl) (tm_cons rfl (sm_same rfl) (tm_cons rfl (sm_ptr rfl) (tm_cons rfl (sm_same rfl) tm_nil)))) (hp_cons rfl rfl (sm_same rfl) (hp_cons rfl rfl (sm_st ⟨sm_nil rfl rfl, sm_nil rfl rfl, sm_int rfl, trivial⟩) (hp_new rfl rfl (hp_new rfl rfl hp_nil))))
  refine of_eq (nli_L0 w n i 0 _) ⟨fun q => ?_, fun q => ?_⟩
  · have q := of_decide_eq_true q
    have q : i < 200 := by omega
    refine ⟨(by first | omega | decide | (unfold I64; omega)), (by first | omega | decide | (unfold I64; omega)), (by first | omega | decide | (unfold I64; omega)), (by first | omega | decide | (unfold I64; omega)), (by first | omega | decide | (unfold I64; omega)), (by first | omega | decide | (unfold I64; omega)), round_end (i + 1) (by omega) (ent_of [(2, 2), (6, 6), (1030, 30), (1039, 39)] rfl (tm_cons rfl (sm_ptr rfl) (tm_cons rfl (sm_same rfl) (tm_cons rfl (sm_ptr rfl) (tm_cons rfl (sm_same rfl) tm_nil)))) (hp_cons rfl rfl (sm_same rfl) (hp_cons rfl rfl (sm_st ⟨sm_sl rfl rfl (Nat.le_refl _) (Nat.le_refl _) (fun h => ⟨h, rfl⟩), sm_sl rfl rfl (Nat.le_refl _) (Nat.le_refl _) (fun h => ⟨h, rfl⟩), sm_int rfl, trivial⟩) (hp_cons rfl rfl (sm_arr fun k hk => ?_) (hp_cons rfl rfl (.inr ⟨rfl, rfl, fun k hk => ?_⟩) hp_nil))))) (by dsimp only; omega)⟩
    · show cat i (fun i1 => pkA (fulK n (0 + i1))) (fun i1 => nthD [pkA (fulK n i)] (0 + i1) (.v undef)) k = pkA (fulK n k)
      unfold cat
      by_cases h : k < i
      · rw [if_pos h]
        show pkA (fulK n (0 + k)) = _
        rw [Nat.zero_add]
      · rw [if_neg h]
        obtain rfl : k = i := by omega
        rw [Nat.sub_self]; rfl
    · by_cases h : k < i
      · left
        show cat i (fun i1 => prA (fulP (0 + i1))) _ k = prA (fulP k)
        unfold cat
        rw [if_pos h]
        show prA (fulP (0 + k)) = _
        rw [Nat.zero_add]
      · right
        obtain rfl : k = i := by omega
        unfold cat
        rw [if_neg h, Nat.sub_self]
        refine ⟨rfl, rfl, fun j hj => .inl ?_⟩
        match j, hj with
        | 0, _ => rfl
        | 1, _ => rfl
  have q := of_decide_eq_false q
  obtain rfl : i = 200 := by omega
  refine cut_ok (S2 := S_li9 w (fullN n)) ((ent_freeze _ [30, 39]).trans (ent_of [(2, 2), (6, 6)] rfl (tm_cons rfl (sm_ptr rfl) (tm_cons rfl (sm_same rfl) (tm_cons rfl (sm_ptr rfl) tm_nil))) (hp_cons rfl rfl (sm_same rfl) (hp_cons rfl rfl (sm_st ⟨sm_dat' (full_len n).1.symm (by simp) fun k hk => ?_, sm_dat' (full_len n).2.symm (by simp) fun k hk => ?_, sm_int rfl, trivial⟩) hp_nil)))) ?_
  · rw [fullK_at hk, Nat.zero_add]; rfl
  · rw [fullP_at hk, Nat.zero_add]; rfl
  have hv0 := full_ok hn
  have hl0 := full_len n
  have ha0 := full_add n
  have hf0 : 0 < (fullN n).fly.length := by omega
  obtain ⟨m, hm⟩ : ∃ m, m = fullN n := ⟨_, rfl⟩
  rw [← hm] at hv0 hl0 ha0 hf0 ⊢
  obtain ⟨hv, ha⟩ : VN m ∧ addB m = false := ⟨hv0, ha0⟩
  have e0 : toN (netD m) = m := toN_net false false m
  have key : ∀ r, r = partsB w.1 w.2 → Holds C P 173 [] 0 (FunPost C 173 0 [.tmp 4] (.sb true) []) (cutAt C w_nli b_nli [1, 1, 1, 1, 1, 1, 0] (S_li12 w m r) (after C w_nli b_nli [1, 1, 1, 1, 1, 1, 0] [] lf)) := fun r hr => by
    refine of_eq (nli_C12 w m r 0 _) ?_
    have e1 : ((two w.1 w.2 0, two w.1 w.2 1) : PI) = w := rfl
    rw [e0, e1, two_0, two_1]
    refine ⟨(by first | omega | decide | (unfold I64; omega)), (by first | omega | decide | (unfold I64; omega)), sent_fun hv _ _, done_fun hv 2 w, (by first | omega | decide | (unfold I64; omega)), (by first | omega | decide | (unfold I64; omega)), sent_zero 1 _ _ (by decide) (by decide) _ _, by simp, by simp, by simp, cut_ok (S2 := S_li13 w m r (sendN m w.1 w.2, sendI m w.1 w.2, sendE m w.1 w.2) (doneN m 2 w, (0, 0, 0), doneE m 2 w) (sendN ⟨[], [], 1⟩ w.1 w.2, sendI ⟨[], [], 1⟩ w.1 w.2, sendE ⟨[], [], 1⟩ w.1 w.2)) (ent_of [(2, 2), (6, 6), (9, 9), (10, 10), (11, 11)] rfl (tm_cons rfl (sm_ptr rfl) (tm_cons rfl (sm_same rfl) (tm_cons rfl (sm_ptr rfl) (tm_cons rfl (sm_same rfl) (tm_cons rfl (sm_ptr rfl) (tm_cons rfl (sm_ptr rfl) (tm_cons rfl (sm_ptr rfl) tm_nil))))))) (hp_cons rfl rfl (sm_same rfl) (hp_cons rfl rfl (sm_same rfl) (hp_cons rfl rfl (sm_same rfl) (hp_cons rfl rfl (sm_same rfl) (hp_cons rfl rfl (sm_same rfl) hp_nil)))))) ?_⟩
    obtain ⟨a, ha2⟩ : ∃ a : Net × Int × Int, a = (sendN m w.1 w.2, sendI m w.1 w.2, sendE m w.1 w.2) := ⟨_, rfl⟩
    obtain ⟨c, hc2⟩ : ∃ c : Net × Pk × Int, c = (doneN m 2 w, (0, 0, 0), doneE m 2 w) := ⟨_, rfl⟩
    obtain ⟨o, ho2⟩ : ∃ o : Net × Int × Int, o = (sendN ⟨[], [], 1⟩ w.1 w.2, sendI ⟨[], [], 1⟩ w.1 w.2, sendE ⟨[], [], 1⟩ w.1 w.2) := ⟨_, rfl⟩
    rw [← ha2, ← hc2, ← ho2]
    have va : VN a.1 := by rw [ha2]; exact hv.send _ _
    have vc : VN c.1 := by rw [hc2]; exact hv.done _ _
    have ea : a.2.2 = sendE m w.1 w.2 := by rw [ha2]
    have ec : c.2.2 = sevE m w.1 w.2 := by rw [hc2]; rfl
    have eo : o.2.2 = sendE ⟨[], [], 1⟩ w.1 w.2 := by rw [ho2]
    have na : a.1 = m := by
      rw [ha2]
      refine send_no fun h => ?_
      have := (send_0 h).2
      rw [ha] at this; cases this
    have nc : c.1 = m := by rw [hc2]; exact sev_same (by omega) _ _
    have e2 : toN (netD a.1) = a.1 := toN_net false false _
    have e3 : toN (netD c.1) = c.1 := toN_net false false _
    refine of_eq (nli_C13 w m r a c o 0 _) ?_
    rw [e0, e2, e1]
    refine ⟨fun q => ?_, fun q => ?_⟩
    · have hp : partsB w.1 w.2 = false := by rw [← hr]; exact bnt q
      have ea1 : a.2.2 = 1 := by rw [ea]; unfold sendE; rw [hp]; rfl
      have ec1 : c.2.2 = 1 := by rw [ec]; unfold sevE; rw [hp]; rfl
      have eo1 : o.2.2 = 1 := by rw [eo]; unfold sendE; rw [hp]; rfl
      have eh1 : doneE m 3 w = 1 := by show healE w.1 w.2 = 1; unfold healE; rw [hp]; rfl
      refine ⟨fun _ => ⟨fun _ => ⟨done_fun hv 3 w, fun _ => ⟨fun _ => ⟨same_ok va, trivial, fun _ => post_tmp rfl (sm_sb rfl), fun q => (tf_no (by rw [na]; exact same_self m) q).elim⟩, fun q => ?_⟩, fun q => ?_⟩, fun q => ?_⟩, fun q => ?_⟩
      · rw [eo1] at q; simp at q
      · rw [eh1] at q; simp at q
      · rw [ec1] at q; simp at q
      · rw [ea1] at q; simp at q
    · have hp : partsB w.1 w.2 = true := by rw [← hr]; exact bnf q
      have ea1 : a.2.2 = 2 := by rw [ea]; unfold sendE; rw [hp, ha]; rfl
      have eo1 : o.2.2 = 0 := by rw [eo]; unfold sendE; rw [hp]; rfl
      refine cut_ok (S2 := S_li13 w m r a c o) (ent_of [(2, 2), (6, 6), (9, 9), (10, 10), (11, 11)] rfl (tm_cons rfl (sm_ptr rfl) (tm_cons rfl (sm_same rfl) (tm_cons rfl (sm_ptr rfl) (tm_cons rfl (sm_same rfl) (tm_cons rfl (sm_ptr rfl) (tm_cons rfl (sm_ptr rfl) (tm_cons rfl (sm_ptr rfl) tm_nil))))))) (hp_cons rfl rfl (sm_same rfl) (hp_cons rfl rfl (sm_same rfl) (hp_cons rfl rfl (sm_same rfl) (hp_cons rfl rfl (sm_same rfl) (hp_cons rfl rfl (sm_same rfl) hp_nil)))))) ?_
      refine of_eq (nli_C15 w m r a c o 0 _) ?_
      have e4 : toN (netD (⟨[], [], 1000000000⟩ : Net)) = ⟨[], [], 1000000000⟩ := toN_net false false _
      rw [e0, two_0, two_1]
      obtain ⟨h1, h2⟩ := hv.hit (i := 0) (by omega) rfl
      have ed : doneE m 1 ((kAt m.fly 0).1, 0) = 2 := by
        show dblE m (kAt m.fly 0).1 = 2
        unfold dblE; rw [h2, ha]; rfl
      have ez : sendE ⟨[], [], 1000000000⟩ w.1 w.2 = 2 := by unfold sendE; rw [hp]; rfl
      refine ⟨fun q => (ne_no ea1 q).elim, fun _ => ⟨fun q => (ne_no eo1 q).elim, fun _ => ⟨(by first | omega | decide | (unfold I64; omega)), done_pair hv 1 _ _, fun q => (ne_no ed q).elim, fun _ => ⟨(by first | omega | decide | (unfold I64; omega)), (by first | omega | decide | (unfold I64; omega)), sent_zero 1000000000 _ _ (by decide) (by decide) _ _, fun q => (ne_no ez q).elim, fun _ => ?_⟩⟩⟩⟩
      refine cut_ok (S2 := S_li17 w m c) (ent_of [(2, 2), (6, 6), (10, 10)] rfl (tm_cons rfl (sm_ptr rfl) (tm_cons rfl (sm_same rfl) (tm_cons rfl (sm_ptr rfl) (tm_cons rfl (sm_ptr rfl) tm_nil)))) (hp_cons rfl rfl (sm_same rfl) (hp_cons rfl rfl (sm_same rfl) (hp_cons rfl rfl (sm_same rfl) hp_nil)))) ?_
      refine of_eq (nli_C17 w m c 0 _) ?_
      rw [e0, e3, two_0, two_1]
      have eq2 : ((c.2.2 == 2) == reachN m w.1 w.2) = true := by
        rw [ec]; unfold sevE
        rw [if_pos hp]
        cases hre : reachN m w.1 w.2 with
        | true => rw [if_pos rfl, if_neg (by omega)]; rfl
        | false => rfl
      exact ⟨(by first | omega | decide | (unfold I64; omega)), (by first | omega | decide | (unfold I64; omega)), reach_fun hv _ _, trivial, fun _ => ⟨same_ok vc, trivial, fun _ => post_tmp rfl (sm_sb rfl), fun q => (tf_no (by rw [nc]; exact same_self m) q).elim⟩, fun q => (tf_no eq2 q).elim⟩
  refine of_eq (nli_C9 w m 0 _) ?_
  rw [e0, two_0, two_1]
  have hpr := parts_right w
  have cut : ∀ (r : Bool) (S : St), r = partsB w.1 w.2 → Ent C 173 [] 0 S (S_li12 w m r) → ∃ S2, Ent C 173 [] 0 S S2 ∧ Holds C P 173 [] 0 (FunPost C 173 0 [.tmp 4] (.sb true) []) (cutAt C w_nli b_nli [1, 1, 1, 1, 1, 1, 0] S2 (after C w_nli b_nli [1, 1, 1, 1, 1, 1, 0] [] lf)) := fun r S hr hS => cut_ok hS (key r hr)
  refine ⟨valid_ok_fun hv, trivial, fun q => (nt_no (valid_ok hv) q).elim, fun _ => ⟨rvalid_ok hv, trivial, fun q => (nt_no (valid_ok hv) q).elim, fun _ => ⟨(by first | omega | decide | (unfold I64; omega)), fun g1 => ⟨(by first | omega | decide | (unfold I64; omega)), fun g2 => ⟨(by first | omega | decide | (unfold I64; omega)), fun g3 => ⟨(by first | omega | decide | (unfold I64; omega)), fun g4 => ⟨(by first | omega | decide | (unfold I64; omega)), (by first | omega | decide | (unfold I64; omega)), ?_⟩, fun g4 => ?_⟩, fun g3 => ?_⟩, fun g2 => ?_⟩, fun g1 => ?_⟩⟩⟩
  · exact cut (w.1 != w.2) _ (by rw [← hpr, g1, g2, g3, g4]; rfl) (ent_of [(2, 2), (6, 6)] rfl (tm_cons rfl (sm_ptr rfl) (tm_cons rfl (sm_same rfl) (tm_cons rfl (sm_ptr rfl) (tm_cons rfl (sm_same rfl) tm_nil)))) (hp_cons rfl rfl (sm_same rfl) (hp_cons rfl rfl (sm_same rfl) hp_nil)))
  · exact cut false _ (by rw [← hpr, g4, Bool.and_false]; rfl) (ent_of [(2, 2), (6, 6)] rfl (tm_cons rfl (sm_ptr rfl) (tm_cons rfl (sm_same rfl) (tm_cons rfl (sm_ptr rfl) (tm_cons rfl (sm_b rfl) tm_nil)))) (hp_cons rfl rfl (sm_same rfl) (hp_cons rfl rfl (sm_same rfl) hp_nil)))
  · exact cut false _ (by rw [← hpr, g3, Bool.and_false]; rfl) (ent_of [(2, 2), (6, 6)] rfl (tm_cons rfl (sm_ptr rfl) (tm_cons rfl (sm_same rfl) (tm_cons rfl (sm_ptr rfl) (tm_cons rfl (sm_b rfl) tm_nil)))) (hp_cons rfl rfl (sm_same rfl) (hp_cons rfl rfl (sm_same rfl) hp_nil)))
  · exact cut false _ (by rw [← hpr, g2, Bool.and_false]; rfl) (ent_of [(2, 2), (6, 6)] rfl (tm_cons rfl (sm_ptr rfl) (tm_cons rfl (sm_same rfl) (tm_cons rfl (sm_ptr rfl) (tm_cons rfl (sm_b rfl) tm_nil)))) (hp_cons rfl rfl (sm_same rfl) (hp_cons rfl rfl (sm_same rfl) hp_nil)))
  · exact cut false _ (by rw [← hpr, g1]; rfl) (ent_of [(2, 2), (6, 6)] rfl (tm_cons rfl (sm_ptr rfl) (tm_cons rfl (sm_same rfl) (tm_cons rfl (sm_ptr rfl) (tm_cons rfl (sm_b rfl) tm_nil)))) (hp_cons rfl rfl (sm_same rfl) (hp_cons rfl rfl (sm_same rfl) hp_nil)))
theorem typed_pair {n : Nat} {x : AV} (h : Typed C.tt (n + 2) 32 x) : ∃ w : PI, simR some x (prA w) := by
  obtain ⟨z, hz, f, rfl, hf⟩ := typed_i64s (e := 3) (m := 2) rfl rfl rfl h
  refine ⟨(z 0, z 1), .inr ⟨rfl, rfl, fun i hi => .inl ?_⟩⟩
  match i, hi with
  | 0, _ => exact hf 0 (by decide)
  | 1, _ => exact hf 1 (by decide)
theorem nli_law {x0 x1 : AV} (h0 : Typed C.tt 6 32 x0) (h1 : Typed C.tt 6 5 x1) : Fun C P F_nli [x0, x1] [] (.sb true) [] := by
  obtain ⟨w, s0⟩ := typed_pair h0
  obtain ⟨n, rfl, hn⟩ := typed_u8 rfl h1
  exact (nli_fun w n hn).sim ⟨s0, sm_same rfl, trivial⟩ trivial
end Go.Bu.W

