/- Lists made of numbers; the law's own functions. -/
import Derived.Test.YtaabgmjgldinpaaK15
import Derived.Test.YtaabgmjgldinpaaK10
namespace Go.Bu.W
abbrev rpN (n : Int) : AV := .st [.i 0, .i n, zD, zD, .st [.i 0, .i 0, .i 0, zD, zD, zD, .i 0, .i 0]]
def tri (x : Tri) : Nat → Nat
  | 0 => x.1
  | 1 => x.2.1
  | _ + 2 => x.2.2
abbrev triA (x : Tri) : AV := .arr 3 1 (fun j => u8 (tri x j))
abbrev tAt (l : List Tri) (i : Nat) : Tri := l.getD i (0, 0, 0)
abbrev dTri (ex : Bool) (l : List Tri) : AV := .dat l.length ex 3 (fun i => triA (tAt l i))
def crBegR : List AV → List (Nat × Blk) → Option (AV × List (Nat × Blk))
  | [.sl _ _ _ n _ _ _, w], [(_, .c (.arr _ _ f))] => some (rwA (begL (toLS (.dat n false 14 f)) (asI w)) (begE (toLS (.dat n false 14 f)) (asI w)), rwH (begL (toLS (.dat n false 14 f)) (asI w)))
  | _, _ => none
def crDoneR : List AV → List (Nat × Blk) → Option (AV × List (Nat × Blk))
  | [.sl _ _ _ n _ _ _, w, q, r], [(_, .c (.arr _ _ f))] => some (rwA (doneL (toLS (.dat n false 14 f)) (asI w) (asI q) (toRp r)) (doneE (toLS (.dat n false 14 f)) (asI w) (asI q)), rwH (doneL (toLS (.dat n false 14 f)) (asI w) (asI q) (toRp r)))
  | _, _ => none
def wayB (keep : List Nat) (nt : Nat) (cuts : List Nat) : Way := ⟨fun g args H => sel (Nat.beq g F_rbegin) (crBegR args H) <| sel (Nat.beq g F_rdone) (crDoneR args H) <| crN6 g args H, fun g => Nat.beq g F_rbegin || Nat.beq g F_rdone, keep, [], nt, cuts⟩
def w_made : Way := wayB [0, 2, 3, 4, 5, 6, 11, 34, 43, 72] 83 [13]
def I_m0 (ex : Bool) (l : List Tri) (i : Nat) : St := { tm := [(0, dTri ex l), (3, .sl 3 [] 0 (madeS (l.take i)).length (madeS (l.take i)).length false 14), (4, i64 i)], hp := [(3, .c (.arr (madeS (l.take i)).length 14 (rowS (madeS (l.take i)))))], seen := [3] }
def I_m1 (ex : Bool) (l : List Tri) (i : Nat) (s : List Ses) (w v : Int) (j : Nat) : St := { tm := [(0, dTri ex l), (3, .sl 3 [] 0 (manyD s w v j).length (manyD s w v j).length false 14), (4, i64 i), (5, i64 (posS s w)), (6, i64 j)], hp := [(3, .c (.arr (manyD s w v j).length 14 (rowS (manyD s w v j))))], seen := [3] }
def S_m13 (ex : Bool) (l : List Tri) (i : Nat) (s : List Ses) (k : Nat) : St := { tm := [(0, dTri ex l), (3, .sl 3 [] 0 s.length s.length false 14), (4, i64 i), (5, i64 k)], hp := [(3, .c (.arr s.length 14 (rowS s)))], seen := [3] }
def toLk : AV → Rp × Bool × Int
  | .st [a, b, c] => (toRp a, asB b, asI c)
  | _ => (rp0, false, 0)
def toLt : AV → List Ses × Int
  | .st [a, b] => (toLS a, asI b)
  | _ => ([], 0)
def eqLk (p q : Rp × Bool × Int) : Bool := eqR p.1 q.1 && decide (p.2.1 = q.2.1) && decide (p.2.2 = q.2.2)
def eqLt (p q : List Ses × Int) : Bool := eqS p.1 q.1 && decide (p.2 = q.2)
def crN8 (g : Nat) (args : List AV) (H : List (Nat × Blk)) : Option (AV × List (Nat × Blk)) :=
  sel (Nat.beq g F_begin) (cr2 toLS rBeg args) <| sel (Nat.beq g F_seen) (cr3 toLS rSeen args) <| sel (Nat.beq g F_done) (cr4 toLS rDone args) <| sel (Nat.beq g F_endS) (cr2 toLS rEnd args) <|
  sel (Nat.beq g F_sameL) (crR2 toLk eqLk args) <| sel (Nat.beq g F_sameT) (crR2 toLt eqLt args) <| sel (Nat.beq g F_sanity) (some (.sb true, [])) <| crN6 g args H
def wayL (keep : List Nat) (nt : Nat) (cuts : List Nat) : Way := ⟨crN8, byrefI, keep, [], nt, cuts⟩
def w_begin : Way := wayL [0, 1, 4, 5, 6] 16 []
def w_seen : Way := wayL [0, 1, 2, 6, 7, 8, 9] 22 []
def w_done : Way := wayL [0, 1, 2, 3, 7, 8, 9, 10] 22 []
def w_endS : Way := wayL [0, 1, 4, 5, 6] 16 []
def w_sameL : Way := wayL [0, 1, 2, 3, 4] 24 []
def w_sameT : Way := wayL [0, 1, 2, 3, 4] 17 []
def w_sanity : Way := wayL [0, 1, 2, 3, 4, 5, 17, 30] 99 [3,6,8,9,10]
abbrev LR : Type := List Ses × Int
abbrev lrA (p : LR) : AV := ltA p.1 p.2
def S_sa2 (r : Rp) (o : LR) : St := { tm := [(1, .ptr 1 []), (2, .ptr 2 [])], hp := [(1, .c (rpA r)), (2, .c (lrA o))], seen := [1, 2] }
def S_sa3 (r : Rp) (o t : LR) : St := { tm := [(1, .ptr 1 []), (2, .ptr 2 []), (3, .ptr 3 [])], hp := [(1, .c (rpA r)), (2, .c (lrA o)), (3, .c (lrA t))], seen := [1, 2, 3] }
def S_sa9 (r : Rp) (t : LR) : St := { tm := [(1, .ptr 1 []), (3, .ptr 3 []), (4, .sb true)], hp := [(1, .c (rpA r)), (3, .c (lrA t))], seen := [1, 3] }
def S_sa10 (r : Rp) (t : LR) : St := { tm := [(1, .ptr 1 []), (3, .ptr 3 []), (4, .sb true), (5, .sb true)], hp := [(1, .c (rpA r)), (3, .c (lrA t))], seen := [1, 3] }

theorem made_A (ex : Bool) (l : List Tri) (K : Nat) (Φ : Ex → St → Prop) :
  (Holds C P 83 [] K Φ (vc C w_made b_made [] (start [dTri ex l] []) lf)) =
  (LoopOK W.C W.P 83 ([] : List Deferred) K (bodyAt b_made [1, 1, 0, 1, 0]) (St.mk [(0, (W.dTri ex l)), (2, (W.zD)), (3, (AV.sl 7 [] 0 0 0 true 14)), (4, (AV.i (0 : Int)))] [(7, (Blk.c (AV.st [])))] [7]) (fun (e : Ex) (S' : St) => Holds W.C W.P 83 ([] : List Deferred) K Φ (after W.C w_made b_made [1, 1, 0, 1, 0] [] lf e S'))) := by kernel_rfl
noncomputable abbrev bd_made_0 : Code := bodyAt (b_made) [1, 1, 0, 1, 0]
theorem ok_made_0 : codeOK bd_made_0 = true := by kernel_rfl
noncomputable abbrev rest_made_0 (K : Nat) (Φ : Ex → St → Prop) : Ex → St → Prop := fun e S' => Holds C P 83 [] K Φ (after C w_made (b_made) [1, 1, 0, 1, 0] [] lf e S')
theorem made_L0 (ex : Bool) (l : List Tri) (i : Nat) (K : Nat) (Φ : Ex → St → Prop) :
  (Holds C P 83 [] K (RoundQ C 83 [] K (I_m0 ex l) (fun i => i ≤ l.length) (fun i => l.length - i) ((fun i => l.length - i) (i)) (rest_made_0 K Φ)) (vc C w_made bd_made_0 [] ((I_m0 ex l) (i)) lf)) =
  (((decide (((i : Nat) : Int) < (((List.length l) : Nat) : Int))) = true →
 ((((0 : Int) ≤ ((i : Nat) : Int)) ∧ (((i : Nat) : Int) < (((List.length l) : Nat) : Int))) ∧
  ((((0 : Int) ≤ (0 : Int)) ∧ ((0 : Int) < (3 : Int))) ∧
  (((12 : Int) ≠ (0 : Int)) ∧
  ((I64 ((((W.tri (W.tAt l i) 0) % 12) : Nat) : Int)) ∧
  (Fun W.C W.P 20 [(AV.sl 0 [] 0 (List.length (W.madeS (List.take i l))) (List.length (W.madeS (List.take i l))) false 14), (AV.i ((((W.tri (W.tAt l i) 0) % 12) : Nat) : Int))] [(0, (Blk.c (AV.arr (List.length (W.madeS (List.take i l))) 14 (W.rowS (W.madeS (List.take i l))))))] (AV.st [(AV.sl 1 [] 0 (List.length (W.begL (W.toLS (W.dSe false (W.madeS (List.take i l)))) ((((W.tri (W.tAt l i) 0) % 12) : Nat) : Int))) (List.length (W.begL (W.toLS (W.dSe false (W.madeS (List.take i l)))) ((((W.tri (W.tAt l i) 0) % 12) : Nat) : Int))) false 14), (AV.i (W.begE (W.toLS (W.dSe false (W.madeS (List.take i l)))) ((((W.tri (W.tAt l i) 0) % 12) : Nat) : Int)))]) [(1, (Blk.c (AV.arr (List.length (W.begL (W.toLS (W.dSe false (W.madeS (List.take i l)))) ((((W.tri (W.tAt l i) 0) % 12) : Nat) : Int))) 14 (W.rowS (W.begL (W.toLS (W.dSe false (W.madeS (List.take i l)))) ((((W.tri (W.tAt l i) 0) % 12) : Nat) : Int))))))] ∧
  ((((0 : Int) ≤ ((i : Nat) : Int)) ∧ (((i : Nat) : Int) < (((List.length l) : Nat) : Int))) ∧
  ((((0 : Int) ≤ (0 : Int)) ∧ ((0 : Int) < (3 : Int))) ∧
  (((12 : Int) ≠ (0 : Int)) ∧
  ((I64 ((((W.tri (W.tAt l i) 0) % 12) : Nat) : Int)) ∧
  (Fun W.C W.P 18 [(AV.dat (List.length (W.begL (W.toLS (W.dSe false (W.madeS (List.take i l)))) ((((W.tri (W.tAt l i) 0) % 12) : Nat) : Int))) false 14 (fun (i1 : Nat) => (W.seA (W.seAt (W.begL (W.toLS (W.dSe false (W.madeS (List.take i l)))) ((((W.tri (W.tAt l i) 0) % 12) : Nat) : Int)) (0 + i1))))), (AV.i ((((W.tri (W.tAt l i) 0) % 12) : Nat) : Int))] [] (AV.i (W.rfI (W.toLS (AV.dat (List.length (W.begL (W.toLS (W.dSe false (W.madeS (List.take i l)))) ((((W.tri (W.tAt l i) 0) % 12) : Nat) : Int))) false 14 (fun (i1 : Nat) => (W.seA (W.seAt (W.begL (W.toLS (W.dSe false (W.madeS (List.take i l)))) ((((W.tri (W.tAt l i) 0) % 12) : Nat) : Int)) (0 + i1)))))) ((((W.tri (W.tAt l i) 0) % 12) : Nat) : Int))) [] ∧
  (True ∧
  (((decide ((W.rfI (W.toLS (AV.dat (List.length (W.begL (W.toLS (W.dSe false (W.madeS (List.take i l)))) ((((W.tri (W.tAt l i) 0) % 12) : Nat) : Int))) false 14 (fun (i1 : Nat) => (W.seA (W.seAt (W.begL (W.toLS (W.dSe false (W.madeS (List.take i l)))) ((((W.tri (W.tAt l i) 0) % 12) : Nat) : Int)) (0 + i1)))))) ((((W.tri (W.tAt l i) 0) % 12) : Nat) : Int)) < (0 : Int))) = true →
  ((I64 (((i + 1) : Nat) : Int)) ∧
   ((RoundQ C 83 [] K (I_m0 ex l) (fun i => i ≤ l.length) (fun i => l.length - i) ((fun i => l.length - i) (i)) (rest_made_0 K Φ)) Ex.normal (St.mk [(0, (W.dTri ex l)), (3, (AV.sl 22 [] 0 (List.length (W.begL (W.toLS (W.dSe false (W.madeS (List.take i l)))) ((((W.tri (W.tAt l i) 0) % 12) : Nat) : Int))) (List.length (W.begL (W.toLS (W.dSe false (W.madeS (List.take i l)))) ((((W.tri (W.tAt l i) 0) % 12) : Nat) : Int))) false 14)), (4, (AV.i (((i + 1) : Nat) : Int))), (5, (AV.i (W.rfI (W.toLS (AV.dat (List.length (W.begL (W.toLS (W.dSe false (W.madeS (List.take i l)))) ((((W.tri (W.tAt l i) 0) % 12) : Nat) : Int))) false 14 (fun (i1 : Nat) => (W.seA (W.seAt (W.begL (W.toLS (W.dSe false (W.madeS (List.take i l)))) ((((W.tri (W.tAt l i) 0) % 12) : Nat) : Int)) (0 + i1)))))) ((((W.tri (W.tAt l i) 0) % 12) : Nat) : Int)))), (11, (AV.v (Value.bool true))), (34, (AV.v (Value.bool true)))] [(22, (Blk.c (AV.arr (List.length (W.begL (W.toLS (W.dSe false (W.madeS (List.take i l)))) ((((W.tri (W.tAt l i) 0) % 12) : Nat) : Int))) 14 (W.rowS (W.begL (W.toLS (W.dSe false (W.madeS (List.take i l)))) ((((W.tri (W.tAt l i) 0) % 12) : Nat) : Int))))))] [22, 3])))) ∧
  ((decide ((W.rfI (W.toLS (AV.dat (List.length (W.begL (W.toLS (W.dSe false (W.madeS (List.take i l)))) ((((W.tri (W.tAt l i) 0) % 12) : Nat) : Int))) false 14 (fun (i1 : Nat) => (W.seA (W.seAt (W.begL (W.toLS (W.dSe false (W.madeS (List.take i l)))) ((((W.tri (W.tAt l i) 0) % 12) : Nat) : Int)) (0 + i1)))))) ((((W.tri (W.tAt l i) 0) % 12) : Nat) : Int)) < (0 : Int))) = false →
  (LoopOK W.C W.P 83 ([] : List Deferred) K (bodyAt bd_made_0 [1, 0, 0, 1, 1, 1, 0, 1, 0]) (St.mk [(0, (W.dTri ex l)), (3, (AV.sl 22 [] 0 (List.length (W.begL (W.toLS (W.dSe false (W.madeS (List.take i l)))) ((((W.tri (W.tAt l i) 0) % 12) : Nat) : Int))) (List.length (W.begL (W.toLS (W.dSe false (W.madeS (List.take i l)))) ((((W.tri (W.tAt l i) 0) % 12) : Nat) : Int))) false 14)), (4, (AV.i ((i : Nat) : Int))), (5, (AV.i (W.rfI (W.toLS (AV.dat (List.length (W.begL (W.toLS (W.dSe false (W.madeS (List.take i l)))) ((((W.tri (W.tAt l i) 0) % 12) : Nat) : Int))) false 14 (fun (i1 : Nat) => (W.seA (W.seAt (W.begL (W.toLS (W.dSe false (W.madeS (List.take i l)))) ((((W.tri (W.tAt l i) 0) % 12) : Nat) : Int)) (0 + i1)))))) ((((W.tri (W.tAt l i) 0) % 12) : Nat) : Int)))), (6, (AV.i (0 : Int))), (11, (AV.v (Value.bool true))), (34, (AV.v (Value.bool false)))] [(22, (Blk.c (AV.arr (List.length (W.begL (W.toLS (W.dSe false (W.madeS (List.take i l)))) ((((W.tri (W.tAt l i) 0) % 12) : Nat) : Int))) 14 (W.rowS (W.begL (W.toLS (W.dSe false (W.madeS (List.take i l)))) ((((W.tri (W.tAt l i) 0) % 12) : Nat) : Int))))))] [22, 3]) (fun (e : Ex) (S' : St) => Holds W.C W.P 83 ([] : List Deferred) K (RoundQ C 83 [] K (I_m0 ex l) (fun i => i ≤ l.length) (fun i => l.length - i) ((fun i => l.length - i) (i)) (rest_made_0 K Φ)) (after W.C w_made bd_made_0 [1, 0, 0, 1, 1, 1, 0, 1, 0] [] lf e S'))))))))))))))))) ∧
 ((decide (((i : Nat) : Int) < (((List.length l) : Nat) : Int))) = false →
 (Φ Ex.ret (St.mk [(0, (W.dTri ex l)), (2, (AV.sl 3 [] 0 (List.length (W.madeS (List.take i l))) (List.length (W.madeS (List.take i l))) false 14)), (3, (AV.sl 3 [] 0 (List.length (W.madeS (List.take i l))) (List.length (W.madeS (List.take i l))) false 14)), (4, (AV.i ((i : Nat) : Int))), (11, (AV.v (Value.bool false)))] [(3, (Blk.c (AV.arr (List.length (W.madeS (List.take i l))) 14 (W.rowS (W.madeS (List.take i l))))))] [3])))) := by kernel_rfl
noncomputable abbrev bd_made_1 : Code := bodyAt (bd_made_0) [1, 0, 0, 1, 1, 1, 0, 1, 0]
theorem ok_made_1 : codeOK bd_made_1 = true := by kernel_rfl
noncomputable abbrev rest_made_1 (K : Nat) (Φ : Ex → St → Prop) : Ex → St → Prop := fun e S' => Holds C P 83 [] K Φ (after C w_made (bd_made_0) [1, 0, 0, 1, 1, 1, 0, 1, 0] [] lf e S')
theorem made_L1 (ex : Bool) (l : List Tri) (i : Nat) (s : List Ses) (w v : Int) (m j : Nat) (K : Nat) (Φ : Ex → St → Prop) :
  (Holds C P 83 [] K (RoundQ C 83 [] K (I_m1 ex l i s w v) (fun j => j ≤ m) (fun j => m - j) ((fun j => m - j) (j)) (rest_made_1 K Φ)) (vc C w_made bd_made_1 [] ((I_m1 ex l i s w v) (j)) lf)) =
  ((((0 : Int) ≤ ((i : Nat) : Int)) ∧ (((i : Nat) : Int) < (((List.length l) : Nat) : Int))) ∧
 ((((0 : Int) ≤ (1 : Int)) ∧ ((1 : Int) < (3 : Int))) ∧
 (((4 : Int) ≠ (0 : Int)) ∧
 ((I64 ((((W.tri (W.tAt l i) 1) % 4) : Nat) : Int)) ∧
 (((decide (((j : Nat) : Int) < ((((W.tri (W.tAt l i) 1) % 4) : Nat) : Int))) = true →
 ((((0 : Int) ≤ (((W.posS s w) : Nat) : Int)) ∧ ((((W.posS s w) : Nat) : Int) < (((List.length (W.manyD s w v j)) : Nat) : Int))) ∧
  ((((0 : Int) ≤ (((W.posS s w) : Nat) : Int)) ∧ ((((W.posS s w) : Nat) : Int) < (((List.length (W.manyD s w v j)) : Nat) : Int))) ∧
  ((I64 ((W.Ses.seq (W.seAt (W.manyD s w v j) (0 + (W.posS s w)))) + (1 : Int))) ∧
  ((((0 : Int) ≤ ((i : Nat) : Int)) ∧ (((i : Nat) : Int) < (((List.length l) : Nat) : Int))) ∧
  ((((0 : Int) ≤ (2 : Int)) ∧ ((2 : Int) < (3 : Int))) ∧
  ((I64 (((W.tri (W.tAt l i) 2) : Nat) : Int)) ∧
  (Fun W.C W.P 22 [(AV.sl 0 [] 0 (List.length (W.manyD s w v j)) (List.length (W.manyD s w v j)) false 14), (AV.i (W.Ses.who (W.seAt (W.manyD s w v j) (0 + (W.posS s w))))), (AV.i ((W.Ses.seq (W.seAt (W.manyD s w v j) (0 + (W.posS s w)))) + (1 : Int))), (W.rpN (((W.tri (W.tAt l i) 2) : Nat) : Int))] [(0, (Blk.c (AV.arr (List.length (W.manyD s w v j)) 14 (W.rowS (W.manyD s w v j)))))] (AV.st [(AV.sl 1 [] 0 (List.length (W.doneL (W.toLS (W.dSe false (W.manyD s w v j))) (W.Ses.who (W.seAt (W.manyD s w v j) (0 + (W.posS s w)))) ((W.Ses.seq (W.seAt (W.manyD s w v j) (0 + (W.posS s w)))) + (1 : Int)) (W.nrep (((W.tri (W.tAt l i) 2) : Nat) : Int)))) (List.length (W.doneL (W.toLS (W.dSe false (W.manyD s w v j))) (W.Ses.who (W.seAt (W.manyD s w v j) (0 + (W.posS s w)))) ((W.Ses.seq (W.seAt (W.manyD s w v j) (0 + (W.posS s w)))) + (1 : Int)) (W.nrep (((W.tri (W.tAt l i) 2) : Nat) : Int)))) false 14), (AV.i (W.doneE (W.toLS (W.dSe false (W.manyD s w v j))) (W.Ses.who (W.seAt (W.manyD s w v j) (0 + (W.posS s w)))) ((W.Ses.seq (W.seAt (W.manyD s w v j) (0 + (W.posS s w)))) + (1 : Int))))]) [(1, (Blk.c (AV.arr (List.length (W.doneL (W.toLS (W.dSe false (W.manyD s w v j))) (W.Ses.who (W.seAt (W.manyD s w v j) (0 + (W.posS s w)))) ((W.Ses.seq (W.seAt (W.manyD s w v j) (0 + (W.posS s w)))) + (1 : Int)) (W.nrep (((W.tri (W.tAt l i) 2) : Nat) : Int)))) 14 (W.rowS (W.doneL (W.toLS (W.dSe false (W.manyD s w v j))) (W.Ses.who (W.seAt (W.manyD s w v j) (0 + (W.posS s w)))) ((W.Ses.seq (W.seAt (W.manyD s w v j) (0 + (W.posS s w)))) + (1 : Int)) (W.nrep (((W.tri (W.tAt l i) 2) : Nat) : Int)))))))] ∧
  ((I64 (((j + 1) : Nat) : Int)) ∧
  ((RoundQ C 83 [] K (I_m1 ex l i s w v) (fun j => j ≤ m) (fun j => m - j) ((fun j => m - j) (j)) (rest_made_1 K Φ)) Ex.normal (St.mk [(0, (W.dTri ex l)), (3, (AV.sl 65 [] 0 (List.length (W.doneL (W.toLS (W.dSe false (W.manyD s w v j))) (W.Ses.who (W.seAt (W.manyD s w v j) (0 + (W.posS s w)))) ((W.Ses.seq (W.seAt (W.manyD s w v j) (0 + (W.posS s w)))) + (1 : Int)) (W.nrep (((W.tri (W.tAt l i) 2) : Nat) : Int)))) (List.length (W.doneL (W.toLS (W.dSe false (W.manyD s w v j))) (W.Ses.who (W.seAt (W.manyD s w v j) (0 + (W.posS s w)))) ((W.Ses.seq (W.seAt (W.manyD s w v j) (0 + (W.posS s w)))) + (1 : Int)) (W.nrep (((W.tri (W.tAt l i) 2) : Nat) : Int)))) false 14)), (4, (AV.i ((i : Nat) : Int))), (5, (AV.i (((W.posS s w) : Nat) : Int))), (6, (AV.i (((j + 1) : Nat) : Int))), (43, (AV.v (Value.bool true)))] [(65, (Blk.c (AV.arr (List.length (W.doneL (W.toLS (W.dSe false (W.manyD s w v j))) (W.Ses.who (W.seAt (W.manyD s w v j) (0 + (W.posS s w)))) ((W.Ses.seq (W.seAt (W.manyD s w v j) (0 + (W.posS s w)))) + (1 : Int)) (W.nrep (((W.tri (W.tAt l i) 2) : Nat) : Int)))) 14 (W.rowS (W.doneL (W.toLS (W.dSe false (W.manyD s w v j))) (W.Ses.who (W.seAt (W.manyD s w v j) (0 + (W.posS s w)))) ((W.Ses.seq (W.seAt (W.manyD s w v j) (0 + (W.posS s w)))) + (1 : Int)) (W.nrep (((W.tri (W.tAt l i) 2) : Nat) : Int)))))))] [65, 3]))))))))))) ∧
 ((decide (((j : Nat) : Int) < ((((W.tri (W.tAt l i) 1) % 4) : Nat) : Int))) = false →
 ((((0 : Int) ≤ ((i : Nat) : Int)) ∧ (((i : Nat) : Int) < (((List.length l) : Nat) : Int))) ∧
  ((((0 : Int) ≤ (1 : Int)) ∧ ((1 : Int) < (3 : Int))) ∧
  (((decide ((((W.tri (W.tAt l i) 1) : Nat) : Int) > (250 : Int))) = true →
  (∃ (S2 : St), Ent W.C 83 ([] : List Deferred) K (St.mk [(0, (W.dTri ex l)), (3, (AV.sl 3 [] 0 (List.length (W.manyD s w v j)) (List.length (W.manyD s w v j)) false 14)), (4, (AV.i ((i : Nat) : Int))), (5, (AV.i (((W.posS s w) : Nat) : Int))), (6, (AV.i ((j : Nat) : Int))), (43, (AV.v (Value.bool false))), (72, (AV.v (Value.bool true)))] [(3, (Blk.c (AV.arr (List.length (W.manyD s w v j)) 14 (W.rowS (W.manyD s w v j)))))] [3]) S2 ∧ Holds W.C W.P 83 ([] : List Deferred) K Φ (cutAt W.C w_made bd_made_0 [1, 0, 0, 1, 1, 1, 1, 1, 0] S2 (after W.C w_made bd_made_0 [1, 0, 0, 1, 1, 1, 1, 1, 0] [] lf)))) ∧
  ((decide ((((W.tri (W.tAt l i) 1) : Nat) : Int) > (250 : Int))) = false →
  ((I64 (((i + 1) : Nat) : Int)) ∧
   (Φ Ex.normal (St.mk [(0, (W.dTri ex l)), (3, (AV.sl 3 [] 0 (List.length (W.manyD s w v j)) (List.length (W.manyD s w v j)) false 14)), (4, (AV.i (((i + 1) : Nat) : Int))), (5, (AV.i (((W.posS s w) : Nat) : Int))), (6, (AV.i ((j : Nat) : Int))), (43, (AV.v (Value.bool false))), (72, (AV.v (Value.bool false)))] [(3, (Blk.c (AV.arr (List.length (W.manyD s w v j)) 14 (W.rowS (W.manyD s w v j)))))] [3]))))))))))))) := by kernel_rfl
theorem made_C13k0 (ex : Bool) (l : List Tri) (i : Nat) (s : List Ses) (K : Nat) (Φ : Ex → St → Prop) :
  (Holds C P 83 [] K Φ (cutAt C w_made bd_made_0 [1, 0, 0, 1, 1, 1, 1, 1, 0] (S_m13 ex l i s 0) (after C w_made bd_made_0 [1, 0, 0, 1, 1, 1, 1, 1, 0] [] lf))) =
  ((((0 : Int) ≤ (0 : Int)) ∧ ((0 : Int) < (((List.length s) : Nat) : Int))) ∧
 ((((0 : Int) ≤ (0 : Int)) ∧ ((0 : Int) < (((List.length s) : Nat) : Int))) ∧
 ((W.ShR) ∧
 ((I64 (((i + 1) : Nat) : Int)) ∧
 (Φ Ex.normal (St.mk [(0, (W.dTri ex l)), (3, (AV.sl 3 [] 0 (List.length s) (List.length s) false 14)), (4, (AV.i (((i + 1) : Nat) : Int))), (5, (AV.i (0 : Int)))] [(3, (Blk.c (AV.arr (List.length s) 14 (fun (j : Nat) => (if (j = 0) then (AV.st [(AV.i (W.Ses.who (W.seAt s 0))), (AV.i (1000000000 : Int)), (W.rpN (1 : Int))]) else (if (j = 0) then (AV.st [(AV.i (W.Ses.who (W.seAt s 0))), (AV.i (1000000000 : Int)), (W.rpA (W.Ses.last (W.seAt s 0)))]) else (W.seA (W.seAt s j))))))))] [3])))))) := by kernel_rfl
theorem made_C13k1 (ex : Bool) (l : List Tri) (i : Nat) (s : List Ses) (K : Nat) (Φ : Ex → St → Prop) :
  (Holds C P 83 [] K Φ (cutAt C w_made bd_made_0 [1, 0, 0, 1, 1, 1, 1, 1, 0] (S_m13 ex l i s 1) (after C w_made bd_made_0 [1, 0, 0, 1, 1, 1, 1, 1, 0] [] lf))) =
  ((((0 : Int) ≤ (1 : Int)) ∧ ((1 : Int) < (((List.length s) : Nat) : Int))) ∧
 ((((0 : Int) ≤ (1 : Int)) ∧ ((1 : Int) < (((List.length s) : Nat) : Int))) ∧
 ((W.ShR) ∧
 ((I64 (((i + 1) : Nat) : Int)) ∧
 (Φ Ex.normal (St.mk [(0, (W.dTri ex l)), (3, (AV.sl 3 [] 0 (List.length s) (List.length s) false 14)), (4, (AV.i (((i + 1) : Nat) : Int))), (5, (AV.i (1 : Int)))] [(3, (Blk.c (AV.arr (List.length s) 14 (fun (j : Nat) => (if (j = 1) then (AV.st [(AV.i (W.Ses.who (W.seAt s 1))), (AV.i (1000000000 : Int)), (W.rpN (1 : Int))]) else (if (j = 1) then (AV.st [(AV.i (W.Ses.who (W.seAt s 1))), (AV.i (1000000000 : Int)), (W.rpA (W.Ses.last (W.seAt s 1)))]) else (W.seA (W.seAt s j))))))))] [3])))))) := by kernel_rfl
theorem made_C13k2 (ex : Bool) (l : List Tri) (i : Nat) (s : List Ses) (K : Nat) (Φ : Ex → St → Prop) :
  (Holds C P 83 [] K Φ (cutAt C w_made bd_made_0 [1, 0, 0, 1, 1, 1, 1, 1, 0] (S_m13 ex l i s 2) (after C w_made bd_made_0 [1, 0, 0, 1, 1, 1, 1, 1, 0] [] lf))) =
  ((((0 : Int) ≤ (2 : Int)) ∧ ((2 : Int) < (((List.length s) : Nat) : Int))) ∧
 ((((0 : Int) ≤ (2 : Int)) ∧ ((2 : Int) < (((List.length s) : Nat) : Int))) ∧
 ((W.ShR) ∧
 ((I64 (((i + 1) : Nat) : Int)) ∧
 (Φ Ex.normal (St.mk [(0, (W.dTri ex l)), (3, (AV.sl 3 [] 0 (List.length s) (List.length s) false 14)), (4, (AV.i (((i + 1) : Nat) : Int))), (5, (AV.i (2 : Int)))] [(3, (Blk.c (AV.arr (List.length s) 14 (fun (j : Nat) => (if (j = 2) then (AV.st [(AV.i (W.Ses.who (W.seAt s 2))), (AV.i (1000000000 : Int)), (W.rpN (1 : Int))]) else (if (j = 2) then (AV.st [(AV.i (W.Ses.who (W.seAt s 2))), (AV.i (1000000000 : Int)), (W.rpA (W.Ses.last (W.seAt s 2)))]) else (W.seA (W.seAt s j))))))))] [3])))))) := by kernel_rfl
theorem made_C13k3 (ex : Bool) (l : List Tri) (i : Nat) (s : List Ses) (K : Nat) (Φ : Ex → St → Prop) :
  (Holds C P 83 [] K Φ (cutAt C w_made bd_made_0 [1, 0, 0, 1, 1, 1, 1, 1, 0] (S_m13 ex l i s 3) (after C w_made bd_made_0 [1, 0, 0, 1, 1, 1, 1, 1, 0] [] lf))) =
  ((((0 : Int) ≤ (3 : Int)) ∧ ((3 : Int) < (((List.length s) : Nat) : Int))) ∧
 ((((0 : Int) ≤ (3 : Int)) ∧ ((3 : Int) < (((List.length s) : Nat) : Int))) ∧
 ((W.ShR) ∧
 ((I64 (((i + 1) : Nat) : Int)) ∧
 (Φ Ex.normal (St.mk [(0, (W.dTri ex l)), (3, (AV.sl 3 [] 0 (List.length s) (List.length s) false 14)), (4, (AV.i (((i + 1) : Nat) : Int))), (5, (AV.i (3 : Int)))] [(3, (Blk.c (AV.arr (List.length s) 14 (fun (j : Nat) => (if (j = 3) then (AV.st [(AV.i (W.Ses.who (W.seAt s 3))), (AV.i (1000000000 : Int)), (W.rpN (1 : Int))]) else (if (j = 3) then (AV.st [(AV.i (W.Ses.who (W.seAt s 3))), (AV.i (1000000000 : Int)), (W.rpA (W.Ses.last (W.seAt s 3)))]) else (W.seA (W.seAt s j))))))))] [3])))))) := by kernel_rfl
theorem made_C13k4 (ex : Bool) (l : List Tri) (i : Nat) (s : List Ses) (K : Nat) (Φ : Ex → St → Prop) :
  (Holds C P 83 [] K Φ (cutAt C w_made bd_made_0 [1, 0, 0, 1, 1, 1, 1, 1, 0] (S_m13 ex l i s 4) (after C w_made bd_made_0 [1, 0, 0, 1, 1, 1, 1, 1, 0] [] lf))) =
  ((((0 : Int) ≤ (4 : Int)) ∧ ((4 : Int) < (((List.length s) : Nat) : Int))) ∧
 ((((0 : Int) ≤ (4 : Int)) ∧ ((4 : Int) < (((List.length s) : Nat) : Int))) ∧
 ((W.ShR) ∧
 ((I64 (((i + 1) : Nat) : Int)) ∧
 (Φ Ex.normal (St.mk [(0, (W.dTri ex l)), (3, (AV.sl 3 [] 0 (List.length s) (List.length s) false 14)), (4, (AV.i (((i + 1) : Nat) : Int))), (5, (AV.i (4 : Int)))] [(3, (Blk.c (AV.arr (List.length s) 14 (fun (j : Nat) => (if (j = 4) then (AV.st [(AV.i (W.Ses.who (W.seAt s 4))), (AV.i (1000000000 : Int)), (W.rpN (1 : Int))]) else (if (j = 4) then (AV.st [(AV.i (W.Ses.who (W.seAt s 4))), (AV.i (1000000000 : Int)), (W.rpA (W.Ses.last (W.seAt s 4)))]) else (W.seA (W.seAt s j))))))))] [3])))))) := by kernel_rfl
theorem made_C13k5 (ex : Bool) (l : List Tri) (i : Nat) (s : List Ses) (K : Nat) (Φ : Ex → St → Prop) :
  (Holds C P 83 [] K Φ (cutAt C w_made bd_made_0 [1, 0, 0, 1, 1, 1, 1, 1, 0] (S_m13 ex l i s 5) (after C w_made bd_made_0 [1, 0, 0, 1, 1, 1, 1, 1, 0] [] lf))) =
  ((((0 : Int) ≤ (5 : Int)) ∧ ((5 : Int) < (((List.length s) : Nat) : Int))) ∧
 ((((0 : Int) ≤ (5 : Int)) ∧ ((5 : Int) < (((List.length s) : Nat) : Int))) ∧
 ((W.ShR) ∧
 ((I64 (((i + 1) : Nat) : Int)) ∧
 (Φ Ex.normal (St.mk [(0, (W.dTri ex l)), (3, (AV.sl 3 [] 0 (List.length s) (List.length s) false 14)), (4, (AV.i (((i + 1) : Nat) : Int))), (5, (AV.i (5 : Int)))] [(3, (Blk.c (AV.arr (List.length s) 14 (fun (j : Nat) => (if (j = 5) then (AV.st [(AV.i (W.Ses.who (W.seAt s 5))), (AV.i (1000000000 : Int)), (W.rpN (1 : Int))]) else (if (j = 5) then (AV.st [(AV.i (W.Ses.who (W.seAt s 5))), (AV.i (1000000000 : Int)), (W.rpA (W.Ses.last (W.seAt s 5)))]) else (W.seA (W.seAt s j))))))))] [3])))))) := by kernel_rfl
theorem made_C13k6 (ex : Bool) (l : List Tri) (i : Nat) (s : List Ses) (K : Nat) (Φ : Ex → St → Prop) :
  (Holds C P 83 [] K Φ (cutAt C w_made bd_made_0 [1, 0, 0, 1, 1, 1, 1, 1, 0] (S_m13 ex l i s 6) (after C w_made bd_made_0 [1, 0, 0, 1, 1, 1, 1, 1, 0] [] lf))) =
  ((((0 : Int) ≤ (6 : Int)) ∧ ((6 : Int) < (((List.length s) : Nat) : Int))) ∧
 ((((0 : Int) ≤ (6 : Int)) ∧ ((6 : Int) < (((List.length s) : Nat) : Int))) ∧
 ((W.ShR) ∧
 ((I64 (((i + 1) : Nat) : Int)) ∧
 (Φ Ex.normal (St.mk [(0, (W.dTri ex l)), (3, (AV.sl 3 [] 0 (List.length s) (List.length s) false 14)), (4, (AV.i (((i + 1) : Nat) : Int))), (5, (AV.i (6 : Int)))] [(3, (Blk.c (AV.arr (List.length s) 14 (fun (j : Nat) => (if (j = 6) then (AV.st [(AV.i (W.Ses.who (W.seAt s 6))), (AV.i (1000000000 : Int)), (W.rpN (1 : Int))]) else (if (j = 6) then (AV.st [(AV.i (W.Ses.who (W.seAt s 6))), (AV.i (1000000000 : Int)), (W.rpA (W.Ses.last (W.seAt s 6)))]) else (W.seA (W.seAt s j))))))))] [3])))))) := by kernel_rfl
theorem made_C13k7 (ex : Bool) (l : List Tri) (i : Nat) (s : List Ses) (K : Nat) (Φ : Ex → St → Prop) :
  (Holds C P 83 [] K Φ (cutAt C w_made bd_made_0 [1, 0, 0, 1, 1, 1, 1, 1, 0] (S_m13 ex l i s 7) (after C w_made bd_made_0 [1, 0, 0, 1, 1, 1, 1, 1, 0] [] lf))) =
  ((((0 : Int) ≤ (7 : Int)) ∧ ((7 : Int) < (((List.length s) : Nat) : Int))) ∧
 ((((0 : Int) ≤ (7 : Int)) ∧ ((7 : Int) < (((List.length s) : Nat) : Int))) ∧
 ((W.ShR) ∧
 ((I64 (((i + 1) : Nat) : Int)) ∧
 (Φ Ex.normal (St.mk [(0, (W.dTri ex l)), (3, (AV.sl 3 [] 0 (List.length s) (List.length s) false 14)), (4, (AV.i (((i + 1) : Nat) : Int))), (5, (AV.i (7 : Int)))] [(3, (Blk.c (AV.arr (List.length s) 14 (fun (j : Nat) => (if (j = 7) then (AV.st [(AV.i (W.Ses.who (W.seAt s 7))), (AV.i (1000000000 : Int)), (W.rpN (1 : Int))]) else (if (j = 7) then (AV.st [(AV.i (W.Ses.who (W.seAt s 7))), (AV.i (1000000000 : Int)), (W.rpA (W.Ses.last (W.seAt s 7)))]) else (W.seA (W.seAt s j))))))))] [3])))))) := by kernel_rfl
theorem begin_A (ex : Bool) (l : List Ses) (who : Int) (K : Nat) (Φ : Ex → St → Prop) :
  (Holds C P 16 [] K Φ (vc C w_begin b_begin [] (start [dSe ex l, .i who] []) lf)) =
  (Fun W.C W.P 26 [(W.dSe ex l), (AV.i who)] [] (AV.tup [(W.dSe false (W.begL (W.toLS (W.dSe ex l)) who)), (AV.i (W.begE (W.toLS (W.dSe ex l)) who))]) [] ∧
 ((W.Sh2) ∧
 (Φ Ex.ret (St.mk [(0, (W.dSe ex l)), (1, (AV.i who)), (4, (AV.ptr 4 [])), (5, (W.dSe false (W.begL (W.toLS (W.dSe ex l)) who))), (6, (AV.i (W.begE (W.toLS (W.dSe ex l)) who)))] [(4, (Blk.c (W.ltA (W.begL (W.toLS (W.dSe ex l)) who) (W.begE (W.toLS (W.dSe ex l)) who))))] [4])))) := by kernel_rfl
theorem seen_A (ex : Bool) (l : List Ses) (who seq : Int) (K : Nat) (Φ : Ex → St → Prop) :
  (Holds C P 22 [] K Φ (vc C w_seen b_seen [] (start [dSe ex l, .i who, .i seq] []) lf)) =
  (Fun W.C W.P 28 [(W.dSe ex l), (AV.i who), (AV.i seq)] [] (AV.tup [(W.rpA (W.seenR (W.toLS (W.dSe ex l)) who seq)), (AV.sb (W.seenB (W.toLS (W.dSe ex l)) who seq)), (AV.i (W.seenE (W.toLS (W.dSe ex l)) who seq))]) [] ∧
 ((W.ShR) ∧
 ((W.ShK) ∧
 (Φ Ex.ret (St.mk [(0, (W.dSe ex l)), (1, (AV.i who)), (2, (AV.i seq)), (6, (AV.ptr 6 [])), (7, (AV.ptr 7 [])), (8, (AV.sb (W.seenB (W.toLS (W.dSe ex l)) who seq))), (9, (AV.i (W.seenE (W.toLS (W.dSe ex l)) who seq)))] [(6, (Blk.c (W.lkA (W.seenR (W.toLS (W.dSe ex l)) who seq) (W.seenB (W.toLS (W.dSe ex l)) who seq) (W.seenE (W.toLS (W.dSe ex l)) who seq)))), (7, (Blk.c (W.rpA (W.seenR (W.toLS (W.dSe ex l)) who seq))))] [7, 6]))))) := by kernel_rfl
theorem done_A (ex : Bool) (l : List Ses) (who seq : Int) (r : Rp) (K : Nat) (Φ : Ex → St → Prop) :
  (Holds C P 22 [] K Φ (vc C w_done b_done [] (start [dSe ex l, .i who, .i seq, rpA r] []) lf)) =
  (Fun W.C W.P 29 [(W.dSe ex l), (AV.i who), (AV.i seq), (W.rpA r)] [] (AV.tup [(W.dSe false (W.doneL (W.toLS (W.dSe ex l)) who seq (W.toRp (W.rpA r)))), (AV.i (W.doneE (W.toLS (W.dSe ex l)) who seq))]) [] ∧
 ((W.Sh2) ∧
 (Φ Ex.ret (St.mk [(0, (W.dSe ex l)), (1, (AV.i who)), (2, (AV.i seq)), (3, (W.rpA r)), (7, (AV.ptr 7 [])), (8, (AV.ptr 8 [])), (9, (W.dSe false (W.doneL (W.toLS (W.dSe ex l)) who seq (W.toRp (W.rpA r))))), (10, (AV.i (W.doneE (W.toLS (W.dSe ex l)) who seq)))] [(7, (Blk.c (W.rpA r))), (8, (Blk.c (W.ltA (W.doneL (W.toLS (W.dSe ex l)) who seq (W.toRp (W.rpA r))) (W.doneE (W.toLS (W.dSe ex l)) who seq))))] [8, 7])))) := by kernel_rfl
theorem endS_A (ex : Bool) (l : List Ses) (who : Int) (K : Nat) (Φ : Ex → St → Prop) :
  (Holds C P 16 [] K Φ (vc C w_endS b_endS [] (start [dSe ex l, .i who] []) lf)) =
  (Fun W.C W.P 43 [(W.dSe ex l), (AV.i who)] [] (AV.tup [(W.dSe false (W.endL (W.toLS (W.dSe ex l)) who)), (AV.i (W.endE (W.toLS (W.dSe ex l)) who))]) [] ∧
 ((W.Sh2) ∧
 (Φ Ex.ret (St.mk [(0, (W.dSe ex l)), (1, (AV.i who)), (4, (AV.ptr 4 [])), (5, (W.dSe false (W.endL (W.toLS (W.dSe ex l)) who))), (6, (AV.i (W.endE (W.toLS (W.dSe ex l)) who)))] [(4, (Blk.c (W.ltA (W.endL (W.toLS (W.dSe ex l)) who) (W.endE (W.toLS (W.dSe ex l)) who))))] [4])))) := by kernel_rfl
theorem sameL_A (r s : Rp) (b c : Bool) (e f : Int) (K : Nat) (Φ : Ex → St → Prop) :
  (Holds C P 24 [] K Φ (vc C w_sameL b_sameL [] (start [lkA r b e, lkA s c f] []) lf)) =
  (Fun W.C W.P 27 [(W.rpA r), (W.rpA s)] [] (AV.sb (W.eqR (W.toRp (W.rpA r)) (W.toRp (W.rpA s)))) [] ∧
 (True ∧
 (((W.eqR (W.toRp (W.rpA r)) (W.toRp (W.rpA s))) = true →
 (((b == c) = true →
  (Φ Ex.ret (St.mk [(0, (W.lkA r b e)), (1, (W.lkA s c f)), (2, (AV.ptr 2 [])), (3, (AV.ptr 3 [])), (4, (AV.sb (e == f)))] [(2, (Blk.c (W.lkA r b e))), (3, (Blk.c (W.lkA s c f)))] [3, 2]))) ∧
  ((b == c) = false →
  (Φ Ex.ret (St.mk [(0, (W.lkA r b e)), (1, (W.lkA s c f)), (2, (AV.ptr 2 [])), (3, (AV.ptr 3 [])), (4, (AV.v (Value.bool false)))] [(2, (Blk.c (W.lkA r b e))), (3, (Blk.c (W.lkA s c f)))] [3, 2]))))) ∧
 ((W.eqR (W.toRp (W.rpA r)) (W.toRp (W.rpA s))) = false →
 (Φ Ex.ret (St.mk [(0, (W.lkA r b e)), (1, (W.lkA s c f)), (2, (AV.ptr 2 [])), (3, (AV.ptr 3 [])), (4, (AV.v (Value.bool false)))] [(2, (Blk.c (W.lkA r b e))), (3, (Blk.c (W.lkA s c f)))] [3, 2])))))) := by kernel_rfl
theorem sameT_A (l m : List Ses) (e f : Int) (K : Nat) (Φ : Ex → St → Prop) :
  (Holds C P 17 [] K Φ (vc C w_sameT b_sameT [] (start [ltA l e, ltA m f] []) lf)) =
  (Fun W.C W.P 42 [(W.dSe false l), (W.dSe false m)] [] (AV.sb (W.eqS (W.toLS (W.dSe false l)) (W.toLS (W.dSe false m)))) [] ∧
 (True ∧
 (((W.eqS (W.toLS (W.dSe false l)) (W.toLS (W.dSe false m))) = true →
 (Φ Ex.ret (St.mk [(0, (W.ltA l e)), (1, (W.ltA m f)), (2, (AV.ptr 2 [])), (3, (AV.ptr 3 [])), (4, (AV.sb (e == f)))] [(2, (Blk.c (W.ltA l e))), (3, (Blk.c (W.ltA m f)))] [3, 2]))) ∧
 ((W.eqS (W.toLS (W.dSe false l)) (W.toLS (W.dSe false m))) = false →
 (Φ Ex.ret (St.mk [(0, (W.ltA l e)), (1, (W.ltA m f)), (2, (AV.ptr 2 [])), (3, (AV.ptr 3 [])), (4, (AV.v (Value.bool false)))] [(2, (Blk.c (W.ltA l e))), (3, (Blk.c (W.ltA m f)))] [3, 2])))))) := by kernel_rfl
theorem sanity_A (_ : Unit) (K : Nat) (Φ : Ex → St → Prop) :
  (Holds C P 99 [] K Φ (vc C w_sanity b_sanity [] (start [] []) lf)) =
  ((W.ShR) ∧
 (Fun W.C W.P 11 [(W.zD), (AV.i (7 : Int))] [] (AV.st [(AV.dat 1 false 14 (fun (i : Nat) => (W.seA (W.seAt [(W.Ses.mk (7 : Int) (0 : Int) W.rp0)] i)))), (AV.i (0 : Int))]) [] ∧
 ((W.Sh2) ∧
 (∃ (S2 : St), Ent W.C 99 ([] : List Deferred) K (St.mk [(0, (AV.v (Value.bool false))), (1, (AV.ptr 1 [])), (2, (AV.ptr 2 []))] [(1, (Blk.c (AV.st [(AV.i (0 : Int)), (AV.i (5 : Int)), (AV.sl 6 [] 0 1 1 true 1), (W.zD), (AV.st [(AV.i (0 : Int)), (AV.i (0 : Int)), (AV.i (0 : Int)), (W.zD), (W.zD), (W.zD), (AV.i (0 : Int)), (AV.i (0 : Int))])]))), (2, (Blk.c (AV.st [(AV.dat 1 false 14 (fun (i : Nat) => (W.seA (W.seAt [(W.Ses.mk (7 : Int) (0 : Int) W.rp0)] i)))), (AV.i (0 : Int))]))), (6, (Blk.c (AV.st [(W.strA (ByteArray.mk (List.toArray [(97 : UInt8)])))])))] [2, 1, 6]) S2 ∧ Holds W.C W.P 99 ([] : List Deferred) K Φ (cutAt W.C w_sanity b_sanity [1, 1, 1, 0, 0] S2 (after W.C w_sanity b_sanity [1, 1, 1, 0, 0] [] lf)))))) := by kernel_rfl
theorem sanity_C3 (r : Rp) (o : LR) (K : Nat) (Φ : Ex → St → Prop) :
  (Holds C P 99 [] K Φ (cutAt C w_sanity b_sanity [1, 1, 1, 0, 0] (S_sa2 r o) (after C w_sanity b_sanity [1, 1, 1, 0, 0] [] lf))) =
  ((((Prod.snd o) != (0 : Int)) = true →
 (Φ Ex.ret (St.mk [(0, (AV.v (Value.bool false))), (1, (AV.ptr 1 [])), (2, (AV.ptr 2 [])), (17, (AV.v (Value.bool true)))] [(1, (Blk.c (W.rpA r))), (2, (Blk.c (W.ltA (Prod.fst o) (Prod.snd o))))] [1, 2]))) ∧
 (((Prod.snd o) != (0 : Int)) = false →
 (Fun W.C W.P 12 [(W.dSe false (Prod.fst o))] [] (AV.sb (W.vB (W.toLS (W.dSe false (Prod.fst o))))) [] ∧
  (True ∧
  (((! (W.vB (W.toLS (W.dSe false (Prod.fst o))))) = true →
  (Φ Ex.ret (St.mk [(0, (AV.v (Value.bool false))), (1, (AV.ptr 1 [])), (2, (AV.ptr 2 [])), (17, (AV.v (Value.bool true)))] [(1, (Blk.c (W.rpA r))), (2, (Blk.c (W.ltA (Prod.fst o) (Prod.snd o))))] [1, 2]))) ∧
  ((! (W.vB (W.toLS (W.dSe false (Prod.fst o))))) = false →
  (Fun W.C W.P 14 [(W.dSe false (Prod.fst o)), (AV.i (7 : Int)), (AV.i (1 : Int)), (W.rpA r)] [] (W.ltA (W.doneL (W.toLS (W.dSe false (Prod.fst o))) (7 : Int) (1 : Int) (W.toRp (W.rpA r))) (W.doneE (W.toLS (W.dSe false (Prod.fst o))) (7 : Int) (1 : Int))) [] ∧
   ((W.Sh2) ∧
   (∃ (S2 : St), Ent W.C 99 ([] : List Deferred) K (St.mk [(1, (AV.ptr 1 [])), (2, (AV.ptr 2 [])), (3, (AV.ptr 3 [])), (17, (AV.v (Value.bool false)))] [(1, (Blk.c (W.rpA r))), (2, (Blk.c (W.ltA (Prod.fst o) (Prod.snd o)))), (3, (Blk.c (W.ltA (W.doneL (W.toLS (W.dSe false (Prod.fst o))) (7 : Int) (1 : Int) (W.toRp (W.rpA r))) (W.doneE (W.toLS (W.dSe false (Prod.fst o))) (7 : Int) (1 : Int)))))] [3, 1, 2]) S2 ∧ Holds W.C W.P 99 ([] : List Deferred) K Φ (cutAt W.C w_sanity b_sanity [1, 1, 1, 1, 1, 0, 0] S2 (after W.C w_sanity b_sanity [1, 1, 1, 1, 1, 0, 0] [] lf))))))))))) := by kernel_rfl
theorem sanity_C6 (r : Rp) (o t : LR) (K : Nat) (Φ : Ex → St → Prop) :
  (Holds C P 99 [] K Φ (cutAt C w_sanity b_sanity [1, 1, 1, 1, 1, 0, 0] (S_sa3 r o t) (after C w_sanity b_sanity [1, 1, 1, 1, 1, 0, 0] [] lf))) =
  ((((Prod.snd t) != (0 : Int)) = true →
 (Φ Ex.ret (St.mk [(0, (AV.v (Value.bool false))), (1, (AV.ptr 1 [])), (2, (AV.ptr 2 [])), (3, (AV.ptr 3 [])), (30, (AV.v (Value.bool true)))] [(1, (Blk.c (W.rpA r))), (2, (Blk.c (W.ltA (Prod.fst o) (Prod.snd o)))), (3, (Blk.c (W.ltA (Prod.fst t) (Prod.snd t))))] [1, 2, 3]))) ∧
 (((Prod.snd t) != (0 : Int)) = false →
 (Fun W.C W.P 12 [(W.dSe false (Prod.fst t))] [] (AV.sb (W.vB (W.toLS (W.dSe false (Prod.fst t))))) [] ∧
  (True ∧
  (((! (W.vB (W.toLS (W.dSe false (Prod.fst t))))) = true →
  (Φ Ex.ret (St.mk [(0, (AV.v (Value.bool false))), (1, (AV.ptr 1 [])), (2, (AV.ptr 2 [])), (3, (AV.ptr 3 [])), (30, (AV.v (Value.bool true)))] [(1, (Blk.c (W.rpA r))), (2, (Blk.c (W.ltA (Prod.fst o) (Prod.snd o)))), (3, (Blk.c (W.ltA (Prod.fst t) (Prod.snd t))))] [1, 2, 3]))) ∧
  ((! (W.vB (W.toLS (W.dSe false (Prod.fst t))))) = false →
  (∃ (S2 : St), Ent W.C 99 ([] : List Deferred) K (St.mk [(1, (AV.ptr 1 [])), (2, (AV.ptr 2 [])), (3, (AV.ptr 3 [])), (30, (AV.v (Value.bool false)))] [(1, (Blk.c (W.rpA r))), (2, (Blk.c (W.ltA (Prod.fst o) (Prod.snd o)))), (3, (Blk.c (W.ltA (Prod.fst t) (Prod.snd t))))] [1, 2, 3]) S2 ∧ Holds W.C W.P 99 ([] : List Deferred) K Φ (cutAt W.C w_sanity b_sanity [1, 1, 1, 1, 1, 1, 0] S2 (after W.C w_sanity b_sanity [1, 1, 1, 1, 1, 1, 0] [] lf))))))))) := by kernel_rfl
theorem sanity_C8 (r : Rp) (o t : LR) (K : Nat) (Φ : Ex → St → Prop) :
  (Holds C P 99 [] K Φ (cutAt C w_sanity b_sanity [1, 1, 1, 1, 1, 1, 0] (S_sa3 r o t) (after C w_sanity b_sanity [1, 1, 1, 1, 1, 1, 0] [] lf))) =
  (Fun W.C W.P 13 [(W.dSe false (Prod.fst o)), (AV.i (7 : Int)), (AV.i (1 : Int))] [] (W.lkA (W.seenR (W.toLS (W.dSe false (Prod.fst o))) (7 : Int) (1 : Int)) (W.seenB (W.toLS (W.dSe false (Prod.fst o))) (7 : Int) (1 : Int)) (W.seenE (W.toLS (W.dSe false (Prod.fst o))) (7 : Int) (1 : Int))) [] ∧
 (Fun W.C W.P 16 [(W.lkA (W.seenR (W.toLS (W.dSe false (Prod.fst o))) (7 : Int) (1 : Int)) (W.seenB (W.toLS (W.dSe false (Prod.fst o))) (7 : Int) (1 : Int)) (W.seenE (W.toLS (W.dSe false (Prod.fst o))) (7 : Int) (1 : Int))), (AV.st [(W.rpZ), (AV.v (Value.bool false)), (AV.i (0 : Int))])] [] (AV.sb (W.eqLk ((W.toRp (W.rpA (W.seenR (W.toLS (W.dSe false (Prod.fst o))) (7 : Int) (1 : Int)))), ((asB (AV.sb (W.seenB (W.toLS (W.dSe false (Prod.fst o))) (7 : Int) (1 : Int)))), (W.seenE (W.toLS (W.dSe false (Prod.fst o))) (7 : Int) (1 : Int)))) ((W.rp0), (false, (0 : Int))))) [] ∧
 (True ∧
 (((W.eqLk ((W.toRp (W.rpA (W.seenR (W.toLS (W.dSe false (Prod.fst o))) (7 : Int) (1 : Int)))), ((asB (AV.sb (W.seenB (W.toLS (W.dSe false (Prod.fst o))) (7 : Int) (1 : Int)))), (W.seenE (W.toLS (W.dSe false (Prod.fst o))) (7 : Int) (1 : Int)))) ((W.rp0), (false, (0 : Int)))) = true →
 (Fun W.C W.P 13 [(W.zD), (AV.i (8 : Int)), (AV.i (1 : Int))] [] (AV.st [(AV.st [(AV.i (0 : Int)), (AV.i (0 : Int)), (AV.dat 0 false 1 (fun (i : Nat) => (W.strA (W.sAt ([] : List ByteArray) i)))), (AV.dat 0 false 3 (fun (_i : Nat) => (AV.st [(AV.i (0 : Int)), (AV.i (0 : Int)), (AV.i (0 : Int))]))), (AV.st [(AV.i (0 : Int)), (AV.i (0 : Int)), (AV.i (0 : Int)), (AV.dat 0 false 5 (fun (_i : Nat) => (AV.st [(AV.i (0 : Int)), (AV.sb Bool.false), (AV.i (0 : Int)), (AV.i (0 : Int)), (AV.sb Bool.false)]))), (AV.dat 0 false 2 (fun (_i : Nat) => (AV.st [(W.strA (ByteArray.mk Array.empty)), (AV.i (0 : Int))]))), (AV.dat 0 false 3 (fun (_i : Nat) => (AV.st [(AV.i (0 : Int)), (AV.i (0 : Int)), (AV.i (0 : Int))]))), (AV.i (0 : Int)), (AV.i (0 : Int))])]), (AV.sb false), (AV.i (190 : Int))]) [] ∧
  ((true = true →
  (Fun W.C W.P 11 [(W.zD), (AV.i (-1 : Int))] [] (AV.st [(AV.dat 0 false 14 (fun (i : Nat) => (AV.st [(AV.i (W.Ses.who (W.seAt ([] : List Ses) i))), (AV.i (W.Ses.seq (W.seAt ([] : List Ses) i))), (AV.st [(AV.i (W.Rp.e (W.Ses.last (W.seAt ([] : List Ses) i)))), (AV.i (W.Rp.n (W.Ses.last (W.seAt ([] : List Ses) i)))), (W.dS false ([] : List ByteArray)), (AV.dat (List.length ([] : List Pc)) false 3 (fun (_i1 : Nat) => (AV.st [(AV.i (0 : Int)), (AV.i (0 : Int)), (AV.i (0 : Int))]))), (AV.st [(AV.i (W.Nd.id (W.Rp.nd (W.Ses.last (W.seAt ([] : List Ses) i))))), (AV.i (W.Nd.kind (W.Rp.nd (W.Ses.last (W.seAt ([] : List Ses) i))))), (AV.i (W.Nd.owner (W.Rp.nd (W.Ses.last (W.seAt ([] : List Ses) i))))), (AV.dat (List.length ([] : List Ac)) false 5 (fun (_i1 : Nat) => (AV.st [(AV.i (0 : Int)), (AV.sb Bool.false), (AV.i (0 : Int)), (AV.i (0 : Int)), (AV.sb Bool.false)]))), (AV.dat (List.length ([] : List En)) false 2 (fun (_i1 : Nat) => (AV.st [(W.strA (ByteArray.mk Array.empty)), (AV.i (0 : Int))]))), (AV.dat (List.length ([] : List Pc)) false 3 (fun (_i1 : Nat) => (AV.st [(AV.i (0 : Int)), (AV.i (0 : Int)), (AV.i (0 : Int))]))), (AV.i (W.Nd.links (W.Rp.nd (W.Ses.last (W.seAt ([] : List Ses) i))))), (AV.i (W.Nd.ver (W.Rp.nd (W.Ses.last (W.seAt ([] : List Ses) i)))))])])]))), (AV.i (1 : Int))]) [] ∧
   (∃ (S2 : St), Ent W.C 99 ([] : List Deferred) K (St.mk [(1, (AV.ptr 1 [])), (2, (AV.ptr 2 [])), (3, (AV.ptr 3 [])), (4, (AV.sb true))] [(1, (Blk.c (W.rpA r))), (2, (Blk.c (W.ltA (Prod.fst o) (Prod.snd o)))), (3, (Blk.c (W.ltA (Prod.fst t) (Prod.snd t))))] [1, 2, 3]) S2 ∧ Holds W.C W.P 99 ([] : List Deferred) K Φ (cutAt W.C w_sanity b_sanity [1, 1, 1, 1, 1, 1, 1, 0] S2 (after W.C w_sanity b_sanity [1, 1, 1, 1, 1, 1, 1, 0] [] lf))))) ∧
  (true = false →
  (∃ (S2 : St), Ent W.C 99 ([] : List Deferred) K (St.mk [(1, (AV.ptr 1 [])), (2, (AV.ptr 2 [])), (3, (AV.ptr 3 [])), (4, (AV.v (Value.bool false)))] [(1, (Blk.c (W.rpA r))), (2, (Blk.c (W.ltA (Prod.fst o) (Prod.snd o)))), (3, (Blk.c (W.ltA (Prod.fst t) (Prod.snd t))))] [1, 2, 3]) S2 ∧ Holds W.C W.P 99 ([] : List Deferred) K Φ (cutAt W.C w_sanity b_sanity [1, 1, 1, 1, 1, 1, 1, 0] S2 (after W.C w_sanity b_sanity [1, 1, 1, 1, 1, 1, 1, 0] [] lf))))))) ∧
 ((W.eqLk ((W.toRp (W.rpA (W.seenR (W.toLS (W.dSe false (Prod.fst o))) (7 : Int) (1 : Int)))), ((asB (AV.sb (W.seenB (W.toLS (W.dSe false (Prod.fst o))) (7 : Int) (1 : Int)))), (W.seenE (W.toLS (W.dSe false (Prod.fst o))) (7 : Int) (1 : Int)))) ((W.rp0), (false, (0 : Int)))) = false →
 (∃ (S2 : St), Ent W.C 99 ([] : List Deferred) K (St.mk [(1, (AV.ptr 1 [])), (2, (AV.ptr 2 [])), (3, (AV.ptr 3 [])), (4, (AV.v (Value.bool false)))] [(1, (Blk.c (W.rpA r))), (2, (Blk.c (W.ltA (Prod.fst o) (Prod.snd o)))), (3, (Blk.c (W.ltA (Prod.fst t) (Prod.snd t))))] [1, 2, 3]) S2 ∧ Holds W.C W.P 99 ([] : List Deferred) K Φ (cutAt W.C w_sanity b_sanity [1, 1, 1, 1, 1, 1, 1, 0] S2 (after W.C w_sanity b_sanity [1, 1, 1, 1, 1, 1, 1, 0] [] lf)))))))) := by kernel_rfl
theorem sanity_C9 (r : Rp) (t : LR) (K : Nat) (Φ : Ex → St → Prop) :
  (Holds C P 99 [] K Φ (cutAt C w_sanity b_sanity [1, 1, 1, 1, 1, 1, 1, 0] (S_sa9 r t) (after C w_sanity b_sanity [1, 1, 1, 1, 1, 1, 1, 0] [] lf))) =
  (Fun W.C W.P 13 [(W.dSe false (Prod.fst t)), (AV.i (7 : Int)), (AV.i (1 : Int))] [] (W.lkA (W.seenR (W.toLS (W.dSe false (Prod.fst t))) (7 : Int) (1 : Int)) (W.seenB (W.toLS (W.dSe false (Prod.fst t))) (7 : Int) (1 : Int)) (W.seenE (W.toLS (W.dSe false (Prod.fst t))) (7 : Int) (1 : Int))) [] ∧
 (Fun W.C W.P 16 [(W.lkA (W.seenR (W.toLS (W.dSe false (Prod.fst t))) (7 : Int) (1 : Int)) (W.seenB (W.toLS (W.dSe false (Prod.fst t))) (7 : Int) (1 : Int)) (W.seenE (W.toLS (W.dSe false (Prod.fst t))) (7 : Int) (1 : Int))), (AV.st [(W.rpA r), (AV.v (Value.bool true)), (AV.i (0 : Int))])] [] (AV.sb (W.eqLk ((W.toRp (W.rpA (W.seenR (W.toLS (W.dSe false (Prod.fst t))) (7 : Int) (1 : Int)))), ((asB (AV.sb (W.seenB (W.toLS (W.dSe false (Prod.fst t))) (7 : Int) (1 : Int)))), (W.seenE (W.toLS (W.dSe false (Prod.fst t))) (7 : Int) (1 : Int)))) ((W.toRp (W.rpA r)), (true, (0 : Int))))) [] ∧
 (True ∧
 (((W.eqLk ((W.toRp (W.rpA (W.seenR (W.toLS (W.dSe false (Prod.fst t))) (7 : Int) (1 : Int)))), ((asB (AV.sb (W.seenB (W.toLS (W.dSe false (Prod.fst t))) (7 : Int) (1 : Int)))), (W.seenE (W.toLS (W.dSe false (Prod.fst t))) (7 : Int) (1 : Int)))) ((W.toRp (W.rpA r)), (true, (0 : Int)))) = true →
 (Fun W.C W.P 13 [(W.dSe false (Prod.fst t)), (AV.i (7 : Int)), (AV.i (2 : Int))] [] (W.lkA (W.seenR (W.toLS (W.dSe false (Prod.fst t))) (7 : Int) (2 : Int)) (W.seenB (W.toLS (W.dSe false (Prod.fst t))) (7 : Int) (2 : Int)) (W.seenE (W.toLS (W.dSe false (Prod.fst t))) (7 : Int) (2 : Int))) [] ∧
  (Fun W.C W.P 16 [(W.lkA (W.seenR (W.toLS (W.dSe false (Prod.fst t))) (7 : Int) (2 : Int)) (W.seenB (W.toLS (W.dSe false (Prod.fst t))) (7 : Int) (2 : Int)) (W.seenE (W.toLS (W.dSe false (Prod.fst t))) (7 : Int) (2 : Int))), (AV.st [(W.rpZ), (AV.v (Value.bool false)), (AV.i (0 : Int))])] [] (AV.sb (W.eqLk ((W.toRp (W.rpA (W.seenR (W.toLS (W.dSe false (Prod.fst t))) (7 : Int) (2 : Int)))), ((asB (AV.sb (W.seenB (W.toLS (W.dSe false (Prod.fst t))) (7 : Int) (2 : Int)))), (W.seenE (W.toLS (W.dSe false (Prod.fst t))) (7 : Int) (2 : Int)))) ((W.rp0), (false, (0 : Int))))) [] ∧
  (True ∧
  (((W.eqLk ((W.toRp (W.rpA (W.seenR (W.toLS (W.dSe false (Prod.fst t))) (7 : Int) (2 : Int)))), ((asB (AV.sb (W.seenB (W.toLS (W.dSe false (Prod.fst t))) (7 : Int) (2 : Int)))), (W.seenE (W.toLS (W.dSe false (Prod.fst t))) (7 : Int) (2 : Int)))) ((W.rp0), (false, (0 : Int)))) = true →
  (Fun W.C W.P 13 [(W.dSe false (Prod.fst t)), (AV.i (7 : Int)), (AV.i (0 : Int))] [] (W.lkA (W.seenR (W.toLS (W.dSe false (Prod.fst t))) (7 : Int) (0 : Int)) (W.seenB (W.toLS (W.dSe false (Prod.fst t))) (7 : Int) (0 : Int)) (W.seenE (W.toLS (W.dSe false (Prod.fst t))) (7 : Int) (0 : Int))) [] ∧
   ((((W.seenE (W.toLS (W.dSe false (Prod.fst t))) (7 : Int) (0 : Int)) == (191 : Int)) = true →
   (Fun W.C W.P 13 [(W.dSe false (Prod.fst t)), (AV.i (7 : Int)), (AV.i (3 : Int))] [] (W.lkA (W.seenR (W.toLS (W.dSe false (Prod.fst t))) (7 : Int) (3 : Int)) (W.seenB (W.toLS (W.dSe false (Prod.fst t))) (7 : Int) (3 : Int)) (W.seenE (W.toLS (W.dSe false (Prod.fst t))) (7 : Int) (3 : Int))) [] ∧
    (∃ (S2 : St), Ent W.C 99 ([] : List Deferred) K (St.mk [(1, (AV.ptr 1 [])), (3, (AV.ptr 3 [])), (4, (AV.sb true)), (5, (AV.sb ((W.seenE (W.toLS (W.dSe false (Prod.fst t))) (7 : Int) (3 : Int)) == (190 : Int))))] [(1, (Blk.c (W.rpA r))), (3, (Blk.c (W.ltA (Prod.fst t) (Prod.snd t))))] [1, 3]) S2 ∧ Holds W.C W.P 99 ([] : List Deferred) K Φ (cutAt W.C w_sanity b_sanity [1, 1, 1, 1, 1, 1, 1, 1, 0] S2 (after W.C w_sanity b_sanity [1, 1, 1, 1, 1, 1, 1, 1, 0] [] lf))))) ∧
   (((W.seenE (W.toLS (W.dSe false (Prod.fst t))) (7 : Int) (0 : Int)) == (191 : Int)) = false →
   (∃ (S2 : St), Ent W.C 99 ([] : List Deferred) K (St.mk [(1, (AV.ptr 1 [])), (3, (AV.ptr 3 [])), (4, (AV.sb true)), (5, (AV.v (Value.bool false)))] [(1, (Blk.c (W.rpA r))), (3, (Blk.c (W.ltA (Prod.fst t) (Prod.snd t))))] [1, 3]) S2 ∧ Holds W.C W.P 99 ([] : List Deferred) K Φ (cutAt W.C w_sanity b_sanity [1, 1, 1, 1, 1, 1, 1, 1, 0] S2 (after W.C w_sanity b_sanity [1, 1, 1, 1, 1, 1, 1, 1, 0] [] lf))))))) ∧
  ((W.eqLk ((W.toRp (W.rpA (W.seenR (W.toLS (W.dSe false (Prod.fst t))) (7 : Int) (2 : Int)))), ((asB (AV.sb (W.seenB (W.toLS (W.dSe false (Prod.fst t))) (7 : Int) (2 : Int)))), (W.seenE (W.toLS (W.dSe false (Prod.fst t))) (7 : Int) (2 : Int)))) ((W.rp0), (false, (0 : Int)))) = false →
  (∃ (S2 : St), Ent W.C 99 ([] : List Deferred) K (St.mk [(1, (AV.ptr 1 [])), (3, (AV.ptr 3 [])), (4, (AV.sb true)), (5, (AV.v (Value.bool false)))] [(1, (Blk.c (W.rpA r))), (3, (Blk.c (W.ltA (Prod.fst t) (Prod.snd t))))] [1, 3]) S2 ∧ Holds W.C W.P 99 ([] : List Deferred) K Φ (cutAt W.C w_sanity b_sanity [1, 1, 1, 1, 1, 1, 1, 1, 0] S2 (after W.C w_sanity b_sanity [1, 1, 1, 1, 1, 1, 1, 1, 0] [] lf))))))))) ∧
 ((W.eqLk ((W.toRp (W.rpA (W.seenR (W.toLS (W.dSe false (Prod.fst t))) (7 : Int) (1 : Int)))), ((asB (AV.sb (W.seenB (W.toLS (W.dSe false (Prod.fst t))) (7 : Int) (1 : Int)))), (W.seenE (W.toLS (W.dSe false (Prod.fst t))) (7 : Int) (1 : Int)))) ((W.toRp (W.rpA r)), (true, (0 : Int)))) = false →
 (∃ (S2 : St), Ent W.C 99 ([] : List Deferred) K (St.mk [(1, (AV.ptr 1 [])), (3, (AV.ptr 3 [])), (4, (AV.sb true)), (5, (AV.v (Value.bool false)))] [(1, (Blk.c (W.rpA r))), (3, (Blk.c (W.ltA (Prod.fst t) (Prod.snd t))))] [1, 3]) S2 ∧ Holds W.C W.P 99 ([] : List Deferred) K Φ (cutAt W.C w_sanity b_sanity [1, 1, 1, 1, 1, 1, 1, 1, 0] S2 (after W.C w_sanity b_sanity [1, 1, 1, 1, 1, 1, 1, 1, 0] [] lf)))))))) := by kernel_rfl
theorem sanity_C10 (r : Rp) (t : LR) (K : Nat) (Φ : Ex → St → Prop) :
  (Holds C P 99 [] K Φ (cutAt C w_sanity b_sanity [1, 1, 1, 1, 1, 1, 1, 1, 0] (S_sa10 r t) (after C w_sanity b_sanity [1, 1, 1, 1, 1, 1, 1, 1, 0] [] lf))) =
  ((true = true →
 ((true = true →
  (Fun W.C W.P 25 [(W.dSe false (Prod.fst t))] [] (AV.sb (W.vB (W.toLS (W.dSe false (Prod.fst t))))) [] ∧
   (True ∧
   (((W.vB (W.toLS (W.dSe false (Prod.fst t)))) = true →
   (Fun W.C W.P 25 [(AV.dat 1 false 14 (fun (i : Nat) => (nthD [(W.seN (-1 : Int))] (0 + i) (AV.v (Value.tuple (List.toArray []))))))] [] (AV.sb false) [] ∧
    (True ∧
    ((true = true →
    (Fun W.C W.P 17 [(W.rpA r), (W.rpA r)] [] (AV.sb (W.eqR (W.toRp (W.rpA r)) (W.toRp (W.rpA r)))) [] ∧
     (True ∧
     (((W.eqR (W.toRp (W.rpA r)) (W.toRp (W.rpA r))) = true →
     (Fun W.C W.P 17 [(W.rpA r), (W.rpN (5 : Int))] [] (AV.sb (W.eqR (W.toRp (W.rpA r)) (W.nrep (5 : Int)))) [] ∧
      (True ∧
      (Φ Ex.ret (St.mk [(0, (AV.sb (! (W.eqR (W.toRp (W.rpA r)) (W.nrep (5 : Int)))))), (1, (AV.ptr 1 [])), (3, (AV.ptr 3 [])), (4, (AV.sb true)), (5, (AV.sb true))] [(1, (Blk.c (W.rpA r))), (3, (Blk.c (W.ltA (Prod.fst t) (Prod.snd t)))), (84, (Blk.c (AV.st [(W.seN (-1 : Int))])))] [84, 1, 3]))))) ∧
     ((W.eqR (W.toRp (W.rpA r)) (W.toRp (W.rpA r))) = false →
     (Φ Ex.ret (St.mk [(0, (AV.v (Value.bool false))), (1, (AV.ptr 1 [])), (3, (AV.ptr 3 [])), (4, (AV.sb true)), (5, (AV.sb true))] [(1, (Blk.c (W.rpA r))), (3, (Blk.c (W.ltA (Prod.fst t) (Prod.snd t)))), (84, (Blk.c (AV.st [(W.seN (-1 : Int))])))] [84, 1, 3]))))))) ∧
    (true = false →
    (Φ Ex.ret (St.mk [(0, (AV.v (Value.bool false))), (1, (AV.ptr 1 [])), (3, (AV.ptr 3 [])), (4, (AV.sb true)), (5, (AV.sb true))] [(1, (Blk.c (W.rpA r))), (3, (Blk.c (W.ltA (Prod.fst t) (Prod.snd t)))), (84, (Blk.c (AV.st [(W.seN (-1 : Int))])))] [84, 1, 3]))))))) ∧
   ((W.vB (W.toLS (W.dSe false (Prod.fst t)))) = false →
   (Φ Ex.ret (St.mk [(0, (AV.v (Value.bool false))), (1, (AV.ptr 1 [])), (3, (AV.ptr 3 [])), (4, (AV.sb true)), (5, (AV.sb true))] [(1, (Blk.c (W.rpA r))), (3, (Blk.c (W.ltA (Prod.fst t) (Prod.snd t))))] [1, 3]))))))) ∧
  (true = false →
  (Φ Ex.ret (St.mk [(0, (AV.v (Value.bool false))), (1, (AV.ptr 1 [])), (3, (AV.ptr 3 [])), (4, (AV.sb true)), (5, (AV.sb true))] [(1, (Blk.c (W.rpA r))), (3, (Blk.c (W.ltA (Prod.fst t) (Prod.snd t))))] [1, 3]))))) ∧
 (true = false →
 (Φ Ex.ret (St.mk [(0, (AV.v (Value.bool false))), (1, (AV.ptr 1 [])), (3, (AV.ptr 3 [])), (4, (AV.sb true)), (5, (AV.sb true))] [(1, (Blk.c (W.rpA r))), (3, (Blk.c (W.ltA (Prod.fst t) (Prod.snd t))))] [1, 3])))) := by kernel_rfl

theorem sm_rpN {m : Nat → Option Nat} (n : Int) : sim m (rpN n) (rpA (nrep n)) :=
  ⟨sm_int rfl, sm_int rfl, .inr ⟨rfl, by simp, .inl rfl, fun i hi => absurd hi (Nat.not_lt_zero i)⟩, .inr ⟨rfl, by simp, .inl rfl, fun i hi => absurd hi (Nat.not_lt_zero i)⟩,
    .inr ⟨sm_int rfl, sm_int rfl, sm_int rfl, .inr ⟨rfl, by simp, .inl rfl, fun i hi => absurd hi (Nat.not_lt_zero i)⟩, .inr ⟨rfl, by simp, .inl rfl, fun i hi => absurd hi (Nat.not_lt_zero i)⟩, .inr ⟨rfl, by simp, .inl rfl, fun i hi => absurd hi (Nat.not_lt_zero i)⟩, sm_int rfl, sm_int rfl, trivial⟩, trivial⟩
def rowM (s : List Ses) (k j : Nat) : AV := if j = k then .st [.i (seAt s k).who, .i 1000000000, rpN 1] else (if j = k then .st [.i (seAt s k).who, .i 1000000000, rpA (seAt s k).last] else seA (seAt s j))
theorem rowM_set {s : List Ses} {k j : Nat} {w : Int} (hw : (seAt s k).who = w) (hj : j < s.length) : rowM s k j = seA (seAt (s.set k (lastS w)) j) ∨ sim (fun _ => none) (rowM s k j) (seA (seAt (s.set k (lastS w)) j)) := by
  unfold rowM
  rw [seAt_set hj]
  by_cases e : j = k
  · rw [if_pos e, if_pos e, hw]; exact .inr ⟨sm_int rfl, sm_int rfl, .inr (sm_rpN 1), trivial⟩
  · rw [if_neg e, if_neg e, if_neg e]; exact .inl rfl
set_option maxHeartbeats 1000000 in
theorem made_cut {ex : Bool} {l : List Tri} {i : Nat} {s : List Ses} {k : Nat} (hk : k < s.length) (h8 : s.length ≤ 8) (hi : I64 ((i + 1 : Nat) : Int)) (K : Nat) {Φ : Ex → St → Prop}
    (hpost : ∀ q, q = k → Φ Ex.normal (St.mk [(0, dTri ex l), (3, .sl 3 [] 0 s.length s.length false 14), (4, .i ((i + 1 : Nat) : Int)), (5, .i (q : Nat))] [(3, .c (.arr s.length 14 (rowM s q)))] [3])) :
    Holds C P 83 [] K Φ (cutAt C w_made bd_made_0 [1, 0, 0, 1, 1, 1, 1, 1, 0] (S_m13 ex l i s k) (after C w_made bd_made_0 [1, 0, 0, 1, 1, 1, 1, 1, 0] [] lf)) := by
  have hk8 : k < 8 := by omega
  match k, hk8 with
    | 0, _ => exact of_eq (made_C13k0 ex l i s K _) ⟨(by first | omega | decide | (unfold I64; omega)), (by first | omega | decide | (unfold I64; omega)), shR_t, hi, hpost 0 rfl⟩
    | 1, _ => exact of_eq (made_C13k1 ex l i s K _) ⟨(by first | omega | decide | (unfold I64; omega)), (by first | omega | decide | (unfold I64; omega)), shR_t, hi, hpost 1 rfl⟩
    | 2, _ => exact of_eq (made_C13k2 ex l i s K _) ⟨(by first | omega | decide | (unfold I64; omega)), (by first | omega | decide | (unfold I64; omega)), shR_t, hi, hpost 2 rfl⟩
    | 3, _ => exact of_eq (made_C13k3 ex l i s K _) ⟨(by first | omega | decide | (unfold I64; omega)), (by first | omega | decide | (unfold I64; omega)), shR_t, hi, hpost 3 rfl⟩
    | 4, _ => exact of_eq (made_C13k4 ex l i s K _) ⟨(by first | omega | decide | (unfold I64; omega)), (by first | omega | decide | (unfold I64; omega)), shR_t, hi, hpost 4 rfl⟩
    | 5, _ => exact of_eq (made_C13k5 ex l i s K _) ⟨(by first | omega | decide | (unfold I64; omega)), (by first | omega | decide | (unfold I64; omega)), shR_t, hi, hpost 5 rfl⟩
    | 6, _ => exact of_eq (made_C13k6 ex l i s K _) ⟨(by first | omega | decide | (unfold I64; omega)), (by first | omega | decide | (unfold I64; omega)), shR_t, hi, hpost 6 rfl⟩
    | 7, _ => exact of_eq (made_C13k7 ex l i s K _) ⟨(by first | omega | decide | (unfold I64; omega)), (by first | omega | decide | (unfold I64; omega)), shR_t, hi, hpost 7 rfl⟩
theorem made_next {l : List Tri} {i : Nat} (hi : i < l.length) : madeS (l.take (i + 1)) = stepM (madeS (l.take i)) (tAt l i) := by
  unfold madeS
  have e : l.take (i + 1) = l.take i ++ [tAt l i] := take_step hi
  rw [e, List.foldl_append]; rfl
theorem made_fun (ex : Bool) (l : List Tri) (hs : ∀ x, x ∈ l → x.1 < 256 ∧ x.2.1 < 256 ∧ x.2.2 < 256) (hn : l.length < 2 ^ 40) : Fun C P F_made [dTri ex l] [] (dSe false (madeS l)) [] := by
  refine in_made (W := w_made) rfl 0 (by simp) rfl (fun id h => absurd rfl h) ?_
  refine of_eq (made_A ex l 0 _) ?_
  refine loop_inv (W := w_made) ctx mixed ok_made_0 (I_m0 ex l) (fun i => i ≤ l.length) (fun i => l.length - i) 0 (Nat.zero_le _) ?_ fun i hi => ?_
  · exact ent_of [(7, 3)] rfl (tm_cons rfl (sm_same rfl) (tm_cons rfl (sm_sl rfl rfl (Nat.le_refl _) (Nat.le_refl _) (by simp)) (tm_cons rfl (sm_same rfl) tm_nil))) (hp_cons rfl rfl (sm_row rfl rfl rfl fun i x hx => by cases i <;> cases hx) hp_nil)
  refine of_eq (made_L0 ex l i 0 _) ?_
  simp only [Nat.zero_add]
  obtain ⟨s, hsd⟩ : ∃ s, s = madeS (l.take i) := ⟨_, rfl⟩
  obtain ⟨x, hxd⟩ : ∃ x, x = tAt l i := ⟨_, rfl⟩
  rw [← hsd, ← hxd, toSeL]
  have hv : VS s := by rw [hsd]; exact vs_made _
  have t0 : tri x 0 = x.1 := rfl
  rw [t0]
  obtain ⟨s1, hs1⟩ : ∃ s1, s1 = begL s ((x.1 % 12 : Nat) : Int) := ⟨_, rfl⟩
  have hv1 : VS s1 := by rw [hs1]; exact hv.beg _
  rw [← hs1, toSeL]
  refine ⟨fun h1 => ?_, fun h1 => ?_⟩
  · have h1 := of_decide_eq_true h1
    have hlt : i < l.length := by omega
    have hx : x.1 < 256 ∧ x.2.1 < 256 ∧ x.2.2 < 256 := by
      have : l[i] = x := by rw [hxd]; simp [List.getD_eq_getElem?_getD, List.getElem?_eq_getElem hlt]
      rw [← this]; exact hs _ (List.getElem_mem hlt)
    have nx : madeS (l.take (i + 1)) = stepM s x := by rw [hsd, hxd]; exact made_next hlt
    refine ⟨(by first | omega | decide | (unfold I64; omega)), (by first | omega | decide | (unfold I64; omega)), (by first | omega | decide | (unfold I64; omega)), (by first | omega | decide | (unfold I64; omega)), hs1 ▸ rbeginR_fun hv _, (by first | omega | decide | (unfold I64; omega)), (by first | omega | decide | (unfold I64; omega)), (by first | omega | decide | (unfold I64; omega)), (by first | omega | decide | (unfold I64; omega)), rfind_fun false hv1 _, trivial, fun h2 => ⟨(by first | omega | decide | (unfold I64; omega)), ?_⟩, fun h2 => ?_⟩
    · have h2 := of_decide_eq_true h2
      rcases hv1.rf ((x.1 % 12 : Nat) : Int) with ⟨hh, hr, _⟩ | ⟨hh, hr⟩
      · rw [hr] at h2; omega
      have e : madeS (l.take (i + 1)) = s1 := by rw [nx]; unfold stepM; rw [← hs1, hh]; simp
      exact round_end (i + 1) (by omega) (ent_of [(22, 3)] rfl (tm_cons rfl (sm_same rfl) (tm_cons rfl (sm_sl rfl (by rw [e]) (by rw [e]; exact Nat.le_refl _) (by rw [e]; exact Nat.le_refl _) (by simp)) (tm_cons rfl (sm_same rfl) tm_nil))) (hp_cons rfl rfl (sm_arr' (by rw [e]) fun k hk => by rw [e]) hp_nil)) (by first | omega | decide | (unfold I64; omega))
    · have h2 := of_decide_eq_false h2
      rcases (hv1.rf ((x.1 % 12 : Nat) : Int)).symm with ⟨hh, hr⟩ | ⟨hh, hr, hp, hw⟩
      · rw [hr] at h2; omega
      obtain ⟨w, hwd⟩ : ∃ w : Int, w = ((x.1 % 12 : Nat) : Int) := ⟨_, rfl⟩
      rw [← hwd] at hh hr hp hw ⊢
      rw [hr]
      have st : stepM s x = if x.2.1 > 250 then (manyD s1 w x.2.2 (x.2.1 % 4)).set (posS s1 w) (lastS w) else manyD s1 w x.2.2 (x.2.1 % 4) := by
        unfold stepM; rw [← hwd, hwd, ← hs1, ← hwd, hh, if_pos rfl]
      refine loop_inv (W := w_made) ctx mixed ok_made_1 (I_m1 ex l i s1 w x.2.2) (fun j => j ≤ x.2.1 % 4) (fun j => x.2.1 % 4 - j) 0 (Nat.zero_le _) ?_ fun j hj => ?_
      · exact ent_of [(22, 3)] rfl (tm_cons rfl (sm_same rfl) (tm_cons rfl (sm_sl rfl rfl (Nat.le_refl _) (Nat.le_refl _) (by simp)) (tm_cons rfl (sm_same rfl) (tm_cons rfl (sm_same rfl) (tm_cons rfl (sm_same rfl) tm_nil))))) (hp_cons rfl rfl (sm_same rfl) hp_nil)
      obtain ⟨q1, q2, q3⟩ := hv1.many hh x.2.2 j
      obtain ⟨sj, hsj⟩ : ∃ sj, sj = manyD s1 w x.2.2 j := ⟨_, rfl⟩
      refine of_eq (made_L1 ex l i s1 w x.2.2 (x.2.1 % 4) j 0 _) ?_
      simp only [Nat.zero_add]
      rw [← hxd, ← hsj, toSeL]
      rw [← hsj] at q1 q2 q3
      have t1 : tri x 1 = x.2.1 := rfl
      have t2 : tri x 2 = x.2.2 := rfl
      rw [t1, t2]
      obtain ⟨p1, p2⟩ := q1.has q2
      obtain ⟨_, u0, u1, _, _⟩ := q1.at p1
      rw [q3] at p1 u0 u1
      have p2' : (seAt sj (posS s1 w)).who = w := by rw [← q3]; exact p2
      have h8 := q1.2.2
      refine ⟨(by first | omega | decide | (unfold I64; omega)), (by first | omega | decide | (unfold I64; omega)), (by first | omega | decide | (unfold I64; omega)), (by first | omega | decide | (unfold I64; omega)), fun g1 => ⟨(by first | omega | decide | (unfold I64; omega)), (by first | omega | decide | (unfold I64; omega)), (by first | omega | decide | (unfold I64; omega)), (by first | omega | decide | (unfold I64; omega)), (by first | omega | decide | (unfold I64; omega)), (by first | omega | decide | (unfold I64; omega)), ?_, (by first | omega | decide | (unfold I64; omega)), ?_⟩, fun g1 => ⟨(by first | omega | decide | (unfold I64; omega)), (by first | omega | decide | (unfold I64; omega)), fun g2 => ?_, fun g2 => ⟨(by first | omega | decide | (unfold I64; omega)), ?_⟩⟩⟩
      · exact (rdoneR_fun q1 _ _ (nrep x.2.2)).sim ⟨.inr ⟨rfl, rfl, rfl, rfl, Nat.le_refl _, Nat.le_refl _, by simp, rfl⟩, sm_same rfl, sm_same rfl, .inr (sm_rpN _), trivial⟩ ⟨rfl, sm_same rfl, trivial⟩
      · have g1 := of_decide_eq_true g1
        have e : manyD s1 w x.2.2 (j + 1) = doneL sj (seAt sj (posS s1 w)).who ((seAt sj (posS s1 w)).seq + 1) (nrep x.2.2) := by
          show doneL (manyD s1 w x.2.2 j) w ((atS (manyD s1 w x.2.2 j) w).seq + 1) (nrep x.2.2) = _
          rw [← hsj, p2']; unfold atS; rw [q3]
        exact round_end (j + 1) (by omega) (ent_of [(65, 3)] rfl (tm_cons rfl (sm_same rfl) (tm_cons rfl (sm_sl rfl (by rw [e]) (by rw [e]; exact Nat.le_refl _) (by rw [e]; exact Nat.le_refl _) (by simp)) (tm_cons rfl (sm_same rfl) (tm_cons rfl (sm_same rfl) (tm_cons rfl (sm_same rfl) tm_nil))))) (hp_cons rfl rfl (sm_arr' (by rw [e]) fun k hk => by rw [e]) hp_nil)) (by first | omega | decide | (unfold I64; omega))
      · have g1 := of_decide_eq_false g1
        obtain rfl : j = x.2.1 % 4 := by omega
        have e : madeS (l.take (i + 1)) = sj.set (posS s1 w) (lastS w) := by rw [nx, st, if_pos (by have := of_decide_eq_true g2; omega), ← hsj]
        refine cut_ok (S2 := S_m13 ex l i sj (posS s1 w)) (ent_of [(3, 3)] rfl (tm_cons rfl (sm_same rfl) (tm_cons rfl (sm_sl rfl rfl (Nat.le_refl _) (Nat.le_refl _) (fun h => ⟨h, rfl⟩)) (tm_cons rfl (sm_same rfl) (tm_cons rfl (sm_same rfl) tm_nil)))) (hp_cons rfl rfl (sm_same rfl) hp_nil)) (made_cut p1 h8 (by first | omega | decide | (unfold I64; omega)) 0 ?_)
        rintro q rfl
        exact round_end (i + 1) (by omega) (ent_of [(3, 3)] rfl (tm_cons rfl (sm_same rfl) (tm_cons rfl (sm_sl rfl (by rw [e, List.length_set]) (by rw [e, List.length_set]; exact Nat.le_refl _) (by rw [e, List.length_set]; exact Nat.le_refl _) (by simp)) (tm_cons rfl (sm_same rfl) tm_nil))) (hp_cons rfl rfl (sm_arrs (by rw [e, List.length_set]) fun k hk => by rw [e]; exact rowM_set p2' hk) hp_nil)) (by first | omega | decide | (unfold I64; omega))
      · have g1 := of_decide_eq_false g1
        obtain rfl : j = x.2.1 % 4 := by omega
        have e : madeS (l.take (i + 1)) = sj := by rw [nx, st, if_neg (by have := of_decide_eq_false g2; omega), ← hsj]
        exact round_end (i + 1) (by omega) (ent_of [(3, 3)] rfl (tm_cons rfl (sm_same rfl) (tm_cons rfl (sm_sl rfl (by rw [e]) (by rw [e]; exact Nat.le_refl _) (by rw [e]; exact Nat.le_refl _) (by simp)) (tm_cons rfl (sm_same rfl) tm_nil))) (hp_cons rfl rfl (sm_arr' (by rw [e]) fun k hk => by rw [e]) hp_nil)) (by first | omega | decide | (unfold I64; omega))
  · have h1 := of_decide_eq_false h1
    obtain rfl : i = l.length := by omega
    rw [List.take_length] at hsd
    rw [← hsd]
    refine post_frz [3] (post_tmp rfl (sm_datr rfl (by simp) fun k hk => .inl (by rw [Nat.zero_add])))
theorem begin_fun {l : List Ses} (ex : Bool) (h : VS l) (who : Int) : Fun C P F_begin [dSe ex l, .i who] [] (rBeg l who) [] := by
  refine in_begin (W := w_begin) rfl 0 (by simp) rfl (fun id h => absurd rfl h) ?_
  refine of_eq (begin_A ex l who 0 _) ?_
  rw [toSeL]
  exact ⟨sbegin_fun ex h who, sh2_t, post_cell rfl rfl (sm_same rfl) rfl⟩
theorem seen_fun {l : List Ses} (ex : Bool) (h : VS l) (who seq : Int) : Fun C P F_seen [dSe ex l, .i who, .i seq] [] (rSeen l who seq) [] := by
  refine in_seen (W := w_seen) rfl 0 (by simp) rfl (fun id h => absurd rfl h) ?_
  refine of_eq (seen_A ex l who seq 0 _) ?_
  rw [toSeL]
  exact ⟨sseen_fun ex h who seq, shR_t, shK_t, post_cell rfl rfl (sm_same rfl) rfl⟩
theorem done_fun {l : List Ses} (ex : Bool) (h : VS l) (who seq : Int) (r : Rp) : Fun C P F_done [dSe ex l, .i who, .i seq, rpA r] [] (rDone l who seq r) [] := by
  refine in_done (W := w_done) rfl 0 (by simp) rfl (fun id h => absurd rfl h) ?_
  refine of_eq (done_A ex l who seq r 0 _) ?_
  rw [toSeL, toRp_A]
  exact ⟨sdone_fun ex h who seq r, sh2_t, post_cell rfl rfl (sm_same rfl) rfl⟩
theorem endS_fun {l : List Ses} (ex : Bool) (h : VS l) (who : Int) : Fun C P F_endS [dSe ex l, .i who] [] (rEnd l who) [] := by
  refine in_endS (W := w_endS) rfl 0 (by simp) rfl (fun id h => absurd rfl h) ?_
  refine of_eq (endS_A ex l who 0 _) ?_
  rw [toSeL]
  exact ⟨send_fun ex h who, sh2_t, post_cell rfl rfl (sm_same rfl) rfl⟩
theorem sameL_fun {r : Rp} (hr : RpOK r) (s : Rp) (b c : Bool) (e f : Int) : Fun C P F_sameL [lkA r b e, lkA s c f] [] (.sb (eqLk (r, b, e) (s, c, f))) [] := by
  refine in_sameL (W := w_sameL) rfl 0 (by simp) rfl (fun id h => absurd rfl h) ?_
  have := sameL_A r s b c e f 0 (FunPost C 24 0 [.tmp 4] (.sb (eqLk (r, b, e) (s, c, f))) [])
  rw [this]
  simp only [toRp_A]
  refine ⟨rsameR_fun r s hr, trivial, fun h1 => ⟨fun h2 => post_tmp rfl (sm_sb ?_), fun h2 => post_tmp rfl (sm_b ?_)⟩, fun h1 => post_tmp rfl (sm_b ?_)⟩
  · have h2 : b = c := by simpa using h2
    simp [eqLk, h1, h2, beq_dec]
  · have h2 : b ≠ c := by simpa using h2
    simp [eqLk, h1, h2]
  · simp [eqLk, h1]
theorem sameT_fun {l : List Ses} (hl : VS l) (m : List Ses) (e f : Int) : Fun C P F_sameT [ltA l e, ltA m f] [] (.sb (eqLt (l, e) (m, f))) [] := by
  refine in_sameT (W := w_sameT) rfl 0 (by simp) rfl (fun id h => absurd rfl h) ?_
  refine of_eq (sameT_A l m e f 0 _) ?_
  rw [toSeL, toSeL]
  refine ⟨rsame_fun false false l m (by have := hl.2.2; omega) hl.ok, trivial, fun h1 => post_tmp rfl (sm_sb ?_), fun h1 => post_tmp rfl (sm_b ?_)⟩
  · simp [eqLt, h1, beq_dec]
  · simp [eqLt, h1]
def r00 : Rp := ⟨0, 5, [ByteArray.mk #[97]], [], rp0.nd⟩
def sO : LR := ([⟨7, 0, rp0⟩], 0)
def sT : LR := ([⟨7, 1, r00⟩], 0)
theorem r00_ok : RpOK r00 := ⟨by decide, by simp [r00], by simp [r00, rp0], by simp [r00, rp0], by simp [r00, rp0]⟩
theorem vsO : VS sO.1 := vs_nil.beg 7
theorem vsT : VS sT.1 := (vs_nil.beg 7).done 7 1 r00_ok
theorem sm_zD {m : Nat → Option Nat} (ex : Bool) (e : Nat) (f : Nat → AV) : simR m zD (.dat 0 ex e f) := .inr ⟨rfl, fun _ => rfl, .inl rfl, fun i hi => absurd hi (Nat.not_lt_zero i)⟩
theorem sm_lkZ : simR (fun _ => none) (.st [rpZ, .v (.bool false), .i 0]) (lkA rp0 false 0) := .inr ⟨.inr sm_rpZ', sm_b rfl, sm_int rfl, trivial⟩
theorem sm_lkT {m : Nat → Option Nat} {r : Rp} {e : Int} : simR m (.st [rpA r, .v (.bool true), .i e]) (lkA r true e) := .inr ⟨sm_same rfl, sm_b rfl, sm_int rfl, trivial⟩
theorem seenR_ok {l : List Ses} (h : VS l) (who seq : Int) : RpOK (seenR l who seq) := by
  unfold seenR
  split
  · rename_i hb
    cases hh : hasS l who with
    | true => exact h.ok _ (h.at_mem hh).1
    | false =>
      have : seenE l who seq = 190 := by unfold seenE; rw [if_pos (.inl hh)]
      unfold seenB at hb; rw [this] at hb; cases hb
  · exact rp0_ok
theorem sm_ndZ {m : Nat → Option Nat} : sim m (.st [.i 0, .i 0, .i 0, zD, zD, zD, .i 0, .i 0]) (ndA rp0.nd) :=
  ⟨sm_int rfl, sm_int rfl, sm_int rfl, sm_zD _ _ _, sm_zD _ _ _, sm_zD _ _ _, sm_int rfl, sm_int rfl, trivial⟩
theorem sm_r00 {m : Nat → Option Nat} {f : Nat → AV} {ex : Bool} (h : f 0 = strA (ByteArray.mk #[97])) : sim m (.st [.i 0, .i 5, .dat 1 ex 1 f, zD, .st [.i 0, .i 0, .i 0, zD, zD, zD, .i 0, .i 0]]) (rpA r00) :=
  ⟨sm_int rfl, sm_int rfl, sm_datr rfl (by simp) (fun i hi => by obtain rfl : i = 0 := (by omega); exact .inl h), sm_zD _ _ _, .inr sm_ndZ, trivial⟩
theorem beg_neg : Fun C P F_begin [zD, .i (-1)] [] (rBeg [] (-1)) [] := (begin_fun true vs_nil (-1)).sim ⟨sm_zD _ _ _, sm_same rfl, trivial⟩ trivial
theorem sanity_fun : Fun C P F_sanity [] [] (.sb true) [] := by
  refine in_sanity (W := w_sanity) rfl 0 (by simp) rfl (fun id h => absurd rfl h) ?_
  refine of_eq (sanity_A () 0 _) ⟨shR_t, (begin_fun true vs_nil 7).sim ⟨sm_zD _ _ _, sm_same rfl, trivial⟩ trivial, sh2_t, ?_⟩
  refine ⟨S_sa2 r00 sO, (ent_freeze _ [6]).trans (ent_of [(1, 1), (2, 2)] rfl (tm_cons rfl (sm_ptr rfl) (tm_cons rfl (sm_ptr rfl) tm_nil)) (hp_cons rfl rfl (.inr (sm_r00 rfl)) (hp_cons rfl rfl (sm_same rfl) hp_nil))), ?_⟩
  obtain ⟨o, ho⟩ : ∃ o, o = sO := ⟨_, rfl⟩
  obtain ⟨r, hr⟩ : ∃ r, r = r00 := ⟨_, rfl⟩
  rw [← ho, ← hr]
  have vo : VS o.1 := ho ▸ vsO
  refine of_eq (sanity_C3 r o 0 _) ?_
  simp only [toRp_A, toSeL]
  refine ⟨fun h => (ne_no (by rw [ho]; rfl) h).elim, fun _ => ⟨rvalid_fun false o.1 (by have := vo.2.2; omega) vo.ok, trivial, fun h => (nt_no vo.vB h).elim, fun _ => ⟨done_fun false vo 7 1 r, sh2_t, ?_⟩⟩⟩
  have hd : (doneL o.1 7 1 r, doneE o.1 7 1) = sT := by rw [ho, hr]; rfl
  refine ⟨S_sa3 r o sT, ent_of [(1, 1), (2, 2), (3, 3)] rfl (tm_cons rfl (sm_ptr rfl) (tm_cons rfl (sm_ptr rfl) (tm_cons rfl (sm_ptr rfl) tm_nil))) (hp_cons rfl rfl (sm_same rfl) (hp_cons rfl rfl (sm_same rfl) (hp_cons rfl rfl (sm_eq rfl (by rw [← hd])) hp_nil))), ?_⟩
  clear hd
  obtain ⟨t, ht⟩ : ∃ t, t = sT := ⟨_, rfl⟩
  rw [← ht]
  have vt : VS t.1 := ht ▸ vsT
  refine of_eq (sanity_C6 r o t 0 _) ?_
  simp only [toSeL]
  refine ⟨fun h => (ne_no (by rw [ht]; rfl) h).elim, fun _ => ⟨rvalid_fun false t.1 (by have := vt.2.2; omega) vt.ok, trivial, fun h => (nt_no vt.vB h).elim, fun _ => ?_⟩⟩
  refine ⟨S_sa3 r o t, ent_of [(1, 1), (2, 2), (3, 3)] rfl (tm_cons rfl (sm_ptr rfl) (tm_cons rfl (sm_ptr rfl) (tm_cons rfl (sm_ptr rfl) tm_nil))) (hp_cons rfl rfl (sm_same rfl) (hp_cons rfl rfl (sm_same rfl) (hp_cons rfl rfl (sm_same rfl) hp_nil))), ?_⟩
  refine of_eq (sanity_C8 r o t 0 _) ?_
  simp only [toRp_A, toSeL]
  have c1 : eqLk (seenR o.1 7 1, seenB o.1 7 1, seenE o.1 7 1) (rp0, false, 0) = true := by rw [ho]; rfl
  refine ⟨seen_fun false vo 7 1, (sameL_fun (seenR_ok vo 7 1) rp0 _ _ _ _).sim ⟨sm_same rfl, sm_lkZ, trivial⟩ trivial, trivial, fun _ => ⟨(seen_fun true vs_nil 8 1).sim ⟨sm_zD _ _ _, sm_same rfl, sm_same rfl, trivial⟩ trivial, fun _ => ⟨beg_neg, ?_⟩, fun h => (Bool.noConfusion h)⟩, fun h => by rw [show asB (AV.sb (seenB o.1 7 1)) = seenB o.1 7 1 from rfl, c1] at h; cases h⟩
  refine ⟨S_sa9 r t, ent_of [(1, 1), (3, 3)] rfl (tm_cons rfl (sm_ptr rfl) (tm_cons rfl (sm_ptr rfl) (tm_cons rfl (sm_same rfl) tm_nil))) (hp_cons rfl rfl (sm_same rfl) (hp_cons rfl rfl (sm_same rfl) hp_nil)), ?_⟩
  refine of_eq (sanity_C9 r t 0 _) ?_
  simp only [toRp_A, toSeL]
  have d1 : eqLk (seenR t.1 7 1, seenB t.1 7 1, seenE t.1 7 1) (r, true, 0) = true := by rw [ht, hr]; rfl
  have d2 : eqLk (seenR t.1 7 2, seenB t.1 7 2, seenE t.1 7 2) (rp0, false, 0) = true := by rw [ht]; rfl
  have d3 : (seenE t.1 7 0 == 191) = true := by rw [ht]; rfl
  have d4 : (seenE t.1 7 3 == 190) = true := by rw [ht]; rfl
  rw [show asB (AV.sb (seenB t.1 7 1)) = seenB t.1 7 1 from rfl, show asB (AV.sb (seenB t.1 7 2)) = seenB t.1 7 2 from rfl, d1, d2, d3, d4]
  refine ⟨seen_fun false vt 7 1, (d1 ▸ (sameL_fun (seenR_ok vt 7 1) r _ _ _ _)).sim ⟨sm_same rfl, sm_lkT, trivial⟩ trivial, trivial, fun _ => ⟨seen_fun false vt 7 2, (d2 ▸ (sameL_fun (seenR_ok vt 7 2) rp0 _ _ _ _)).sim ⟨sm_same rfl, sm_lkZ, trivial⟩ trivial, trivial, fun _ => ⟨seen_fun false vt 7 0, fun _ => ⟨seen_fun false vt 7 3, ?_⟩, fun h => (Bool.noConfusion h)⟩, fun h => (Bool.noConfusion h)⟩, fun h => (Bool.noConfusion h)⟩
  refine ⟨S_sa10 r t, ent_of [(1, 1), (3, 3)] rfl (tm_cons rfl (sm_ptr rfl) (tm_cons rfl (sm_ptr rfl) (tm_cons rfl (sm_same rfl) (tm_cons rfl (sm_same rfl) tm_nil)))) (hp_cons rfl rfl (sm_same rfl) (hp_cons rfl rfl (sm_same rfl) hp_nil)), ?_⟩
  refine of_eq (sanity_C10 r t 0 _) ?_
  simp only [toRp_A, toSeL]
  have ro : RpOK r := hr ▸ r00_ok
  have f1 : eqR r r = true := by rw [hr]; rfl
  have f2 : eqR r (nrep 5) = false := by rw [hr]; rfl
  have f3 : vB [⟨-1, 0, rp0⟩] = false := rfl
  rw [vt.vB, f1, f2]
  refine ⟨fun _ => ⟨fun _ => ⟨vt.vB ▸ valid_fun false t.1 (by have := vt.2.2; omega) vt.ok, trivial, fun _ => ⟨(f3 ▸ valid_fun false [⟨-1, 0, rp0⟩] (by simp) (fun s hs => by simp at hs; subst hs; exact rp0_ok)).sim ⟨sm_datr rfl (by simp) (fun i hi => by obtain rfl : i = 0 := (by omega); exact .inr (sm_seN _)), trivial⟩ trivial, trivial, fun _ => ⟨f1 ▸ sameR_fun r r ro, trivial, fun _ => ⟨(f2 ▸ sameR_fun r (nrep 5) ro).sim ⟨sm_same rfl, .inr (sm_rpN _), trivial⟩ trivial, trivial, post_tmp rfl (sm_sb rfl)⟩, fun h => (Bool.noConfusion h)⟩, fun h => (Bool.noConfusion h)⟩, fun h => (Bool.noConfusion h)⟩, fun h => (Bool.noConfusion h)⟩, fun h => (Bool.noConfusion h)⟩
end Go.Bu.W

namespace Go.Bu.W
def toTri : AV → Tri
  | .arr _ _ f => ((asI (f 0)).toNat, (asI (f 1)).toNat, (asI (f 2)).toNat)
  | _ => (0, 0, 0)
theorem toTri_A (p : Tri) : toTri (triA p) = p := by
  obtain ⟨a, b, c⟩ := p
  show ((a : Int).toNat, (b : Int).toNat, (c : Int).toNat) = _
  simp
theorem toTris_A (ex : Bool) (l : List Tri) : toL toTri (dTri ex l) = l := toL_dat toTri_A l (0, 0, 0) ex 3
def crL (g : Nat) (args : List AV) (H : List (Nat × Blk)) : Option (AV × List (Nat × Blk)) :=
  sel (Nat.beq g F_made) (cr1 (toL toTri) (fun l => dSe false (madeS l)) args) <| crN8 g args H
def wayK (keep : List Nat) (nt : Nat) (cuts : List Nat) : Way := ⟨crL, byrefI, keep, [], nt, cuts⟩
def tw (x : Nat × Nat) : Nat → Nat
  | 0 => x.1
  | _ + 1 => x.2
abbrev twA (x : Nat × Nat) : AV := .arr 2 1 (fun j => u8 (tw x j))
abbrev wAt (l : List (Nat × Nat)) (i : Nat) : Nat × Nat := l.getD i (0, 0)
abbrev dTw (ex : Bool) (l : List (Nat × Nat)) : AV := .dat l.length ex 2 (fun i => twA (wAt l i))
def ii (x : Int × Int) : Nat → Int
  | 0 => x.1
  | _ + 1 => x.2
abbrev iiA (x : Int × Int) : AV := .arr 2 1 (fun j => .i (ii x j))
def Tri8 (p : Tri) : Prop := p.1 < 256 ∧ p.2.1 < 256 ∧ p.2.2 < 256
theorem nb_no (h : true = false) : False := Bool.noConfusion h
theorem eqLt_iff {p q : LR} : eqLt p q = true ↔ p = q := by
  obtain ⟨a, b⟩ := p
  obtain ⟨c, d⟩ := q
  simp [eqLt, eqS_iff]
theorem eqLk_iff {p q : Rp × Bool × Int} : eqLk p q = true ↔ p = q := by
  obtain ⟨a, b, e⟩ := p
  obtain ⟨c, d, f⟩ := q
  simp [eqLk, eqR_iff, and_assoc]
theorem eqLt_r (p : LR) : eqLt p p = true := eqLt_iff.2 rfl
theorem eqLk_r (p : Rp × Bool × Int) : eqLk p p = true := eqLk_iff.2 rfl
/-- Who is not there. -/
theorem gone {l : List Ses} {who : Int} (hh : hasS l who = false) (seq : Int) : (∀ r, doneL l who seq r = l ∧ doneE l who seq = 190) ∧ (endL l who = l ∧ endE l who = 190) ∧ (seenR l who seq = rp0 ∧ seenB l who seq = false ∧ seenE l who seq = 190) := by
  have e1 : doneE l who seq = 190 := by unfold doneE; rw [if_pos (.inl hh)]
  have e2 : seenE l who seq = 190 := by unfold seenE; rw [if_pos (.inl hh)]
  have e3 : seenB l who seq = false := by unfold seenB; rw [e2]; rfl
  refine ⟨fun r => ⟨by unfold doneL; rw [e1]; rfl, e1⟩, ⟨by unfold endL; rw [hh]; rfl, by unfold endE; rw [hh]; rfl⟩, by unfold seenR; rw [e3]; rfl, e3, e2⟩
theorem beg_is {l m : List Ses} {who e : Int} (hv : VS l) (h1 : begE l who = e) (h2 : begL l who = m) : Fun C P F_begin [dSe false l, .i who] [] (ltA m e) [] := by
  subst h1 h2; exact begin_fun false hv who
theorem end_is {l m : List Ses} {who e : Int} (hv : VS l) (h1 : endE l who = e) (h2 : endL l who = m) : Fun C P F_endS [dSe false l, .i who] [] (ltA m e) [] := by
  subst h1 h2; exact endS_fun false hv who
theorem done_is {l m : List Ses} {who seq e : Int} {r : Rp} (hv : VS l) (h1 : doneE l who seq = e) (h2 : doneL l who seq r = m) : Fun C P F_done [dSe false l, .i who, .i seq, rpA r] [] (ltA m e) [] := by
  subst h1 h2; exact done_fun false hv who seq r
theorem seen_is {l : List Ses} {who seq e : Int} {r : Rp} {b : Bool} (hv : VS l) (h1 : seenE l who seq = e) (h2 : seenB l who seq = b) (h3 : seenR l who seq = r) : Fun C P F_seen [dSe false l, .i who, .i seq] [] (lkA r b e) [] := by
  subst h1 h2 h3; exact seen_fun false hv who seq
theorem sameT_is {l m : List Ses} {e f : Int} {b : Bool} (hv : VS l) (h : eqLt (l, e) (m, f) = b) : Fun C P F_sameT [ltA l e, ltA m f] [] (.sb b) [] := by
  subst h; exact sameT_fun hv m e f
theorem sameL_is {r s : Rp} {b c q : Bool} {e f : Int} (hr : RpOK r) (h : eqLk (r, b, e) (s, c, f) = q) : Fun C P F_sameL [lkA r b e, lkA s c f] [] (.sb q) [] := by
  subst h; exact sameL_fun hr s b c e f
theorem vld {l : List Ses} (h : VS l) : Fun C P F_rvalid [dSe false l] [] (.sb true) [] := h.vB ▸ rvalid_fun false l (by have := h.2.2; omega) h.ok
theorem vld2 {l : List Ses} (h : VS l) : Fun C P F_valid [dSe false l] [] (.sb true) [] := h.vB ▸ valid_fun false l (by have := h.2.2; omega) h.ok
theorem beg_end {l : List Ses} (h : VS l) {who : Int} (he : begE l who = 0) : endE (begL l who) who = 0 ∧ endL (begL l who) who = l ∧ (begL l who).length = l.length + 1 := by
  rcases begE_or l who with ⟨h1, _⟩ | ⟨_, _, _, _, e⟩
  · exact absurd he h1
  · have hp := h.pos_le who
    have hv := h.beg who
    have hlen : (begL l who).length = l.length + 1 := by rw [e, List.length_insertIdx, if_pos hp]
    obtain ⟨g1, g2⟩ := hv.hit (i := posS l who) (who := who) (by omega) (by rw [seAt_lt (by omega)]; simp only [e, List.getElem_insertIdx_self])
    refine ⟨by unfold endE; rw [g1]; rfl, ?_, hlen⟩
    unfold endL
    rw [if_pos g1, g2, e]
    exact List.eraseIdx_insertIdx_self _
theorem done_at {l : List Ses} (h : VS l) {who seq : Int} {r : Rp} (hr : RpOK r) (hh : hasS l who = true) (hq : seq = (atS l who).seq + 1) (h9 : seq ≤ 1000000000) : doneE l who seq = 0 ∧ VS (doneL l who seq r) ∧ hasS (doneL l who seq r) who = true ∧ atS (doneL l who seq r) who = ⟨who, seq, r⟩ := by
  have e : doneE l who seq = 0 := by unfold doneE; rw [if_neg (by rw [hh, ← hq]; simp), if_neg (by omega)]
  obtain ⟨g1, g2⟩ := h.done_pos (seq := seq) hr hh
  refine ⟨e, h.done _ _ hr, g1, ?_⟩
  have hp := (h.has hh).1
  unfold atS
  rw [g2]
  unfold doneL
  rw [if_pos e, seAt_set hp, if_pos rfl]
theorem old_of {l : List Ses} {who seq : Int} (hh : hasS l who = true) (hq : seq < (atS l who).seq) : seenE l who seq = 191 ∧ seenB l who seq = false ∧ seenR l who seq = rp0 := by
  have e : seenE l who seq = 191 := by
    unfold seenE
    rw [if_neg (by rw [hh]; simp; omega), if_neg (by omega), if_pos (.inl hq)]
  have e2 : seenB l who seq = false := by unfold seenB; rw [e]; rfl
  exact ⟨e, e2, by unfold seenR; rw [e2]; rfl⟩
theorem now_of {l : List Ses} {who seq : Int} {r : Rp} (hh : hasS l who = true) (hq : atS l who = ⟨who, seq, r⟩) (h0 : seq ≠ 0) : seenE l who seq = 0 ∧ seenB l who seq = true ∧ seenR l who seq = r := by
  have e : seenE l who seq = 0 := by
    unfold seenE
    rw [hq, if_neg (by rw [hh]; simp; omega), if_neg (by show ¬ seq = seq + 1; omega), if_neg (by show ¬ (seq < seq ∨ seq = 0); omega)]
  have e2 : seenB l who seq = true := by unfold seenB; rw [e, hq]; simp; omega
  exact ⟨e, e2, by unfold seenR; rw [e2, hq]; rfl⟩
/-- The others do not see a client's change. -/
def Aprt (l : List Ses) (who : Int) (p : LR) : Prop := VS p.1 ∧ ∀ k, k ≠ who → hasS p.1 k = hasS l k ∧ (hasS p.1 k = true → atS p.1 k = atS l k)
theorem aprt_beg {l : List Ses} (h : VS l) (who : Int) : Aprt l who (begL l who, begE l who) :=
  ⟨h.beg who, fun k hk => (h.beg who).same h fun s hs => by
    rw [h.mem_beg]
    exact ⟨fun g => g.elim id fun ⟨_, g⟩ => absurd (by rw [← hs, g]) hk, .inl⟩⟩
theorem aprt_end {l : List Ses} (h : VS l) (who : Int) : Aprt l who (endL l who, endE l who) :=
  ⟨h.fin who, fun k hk => (h.fin who).same h fun s hs => by
    rw [h.mem_end]
    exact ⟨fun g => g.1, fun g => ⟨g, by rw [hs]; exact hk⟩⟩⟩
theorem aprt_done {l : List Ses} (h : VS l) (who seq : Int) {r : Rp} (hr : RpOK r) : Aprt l who (doneL l who seq r, doneE l who seq) :=
  ⟨h.done who seq hr, fun k hk => (h.done who seq hr).same h fun s hs => by
    by_cases e : doneE l who seq = 0
    · rw [h.mem_done e]
      exact ⟨fun g => g.elim (fun g => absurd (by rw [← hs, g]) hk) (fun g => g.1), fun g => .inr ⟨g, by rw [hs]; exact hk⟩⟩
    · unfold doneL; rw [if_neg e]⟩
theorem typed_tri {n : Nat} {x : AV} (h : Typed C.tt (n + 2) 51 x) : ∃ p : Tri, Tri8 p ∧ sim (fun _ => none) x (triA p) := by
  obtain ⟨z, hz, f, rfl, hf⟩ := typed_u8s (e := 5) (m := 3) rfl rfl rfl h
  refine ⟨(z 0, z 1, z 2), ⟨hz 0 (by decide), hz 1 (by decide), hz 2 (by decide)⟩, rfl, rfl, fun i hi => .inl ?_⟩
  match i, hi with
  | 0, _ => exact hf 0 (by decide)
  | 1, _ => exact hf 1 (by decide)
  | 2, _ => exact hf 2 (by decide)
theorem typed_tri' {n : Nat} {x : AV} (h : Typed C.tt (n + 2) 51 x) : ∃ p : Tri, Tri8 p ∧ simR some x (triA p) := by
  obtain ⟨z, hz, f, rfl, hf⟩ := typed_u8s (e := 5) (m := 3) rfl rfl rfl h
  refine ⟨(z 0, z 1, z 2), ⟨hz 0 (by decide), hz 1 (by decide), hz 2 (by decide)⟩, sm_arr fun i hi => ?_⟩
  match i, hi with
  | 0, _ => exact hf 0 (by decide)
  | 1, _ => exact hf 1 (by decide)
  | 2, _ => exact hf 2 (by decide)
theorem typed_tris {x : AV} (h : Typed C.tt 6 45 x) : ∃ (l : List Tri) (ex : Bool), l.length ≤ maxLen ∧ (∀ p, p ∈ l → Tri8 p) ∧ simR some x (dTri ex l) :=
  typed_list (s := 51) rfl (0, 0, 0) triA Tri8 (fun _ hy => typed_tri hy) h
theorem typed_pc {n : Nat} {x : AV} (h : Typed C.tt (n + 2) 53 x) : ∃ p : Pc, True ∧ sim (fun _ => none) x (pcA p) := by
  obtain ⟨xs, rfl, hl, hg⟩ : ∃ xs, x = .st xs ∧ xs.length = 3 ∧ ∀ i t o y, nth? [(3, 0), (3, 1), (3, 2)] i = some (t, o) → nth? xs i = some y → Typed C.tt (n + 1) t y := h
  match xs, hl with
  | [a, b, c], _ =>
    obtain ⟨i, rfl, _⟩ := typed_i64 rfl (hg 0 3 0 a rfl rfl)
    obtain ⟨j, rfl, _⟩ := typed_i64 rfl (hg 1 3 1 b rfl rfl)
    obtain ⟨k, rfl, _⟩ := typed_i64 rfl (hg 2 3 2 c rfl rfl)
    exact ⟨(i, j, k), trivial, sm_int rfl, sm_int rfl, sm_int rfl, trivial⟩
theorem typed_b {n t : Nat} {x : AV} (hd : (C.tt t).d = .bool) (h : Typed C.tt (n + 1) t x) : ∃ b, x = .sb b := by
  simpa only [Typed, hd] using h
theorem typed_s {n t : Nat} {x : AV} (hd : (C.tt t).d = .str) (h : Typed C.tt (n + 1) t x) : ∃ s : ByteArray, x = .v (.string s) := by
  simp only [Typed, hd] at h
  obtain ⟨s, h1, _⟩ := h
  exact ⟨s, h1⟩
theorem typed_ac {n : Nat} {x : AV} (h : Typed C.tt (n + 2) 55 x) : ∃ p : Ac, True ∧ sim (fun _ => none) x (acA p) := by
  obtain ⟨xs, rfl, hl, hg⟩ : ∃ xs, x = .st xs ∧ xs.length = 5 ∧ ∀ i t o y, nth? [(3, 0), (4, 1), (3, 2), (3, 3), (4, 4)] i = some (t, o) → nth? xs i = some y → Typed C.tt (n + 1) t y := h
  match xs, hl with
  | [a, b, c, d, e], _ =>
    obtain ⟨i, rfl, _⟩ := typed_i64 rfl (hg 0 3 0 a rfl rfl)
    obtain ⟨j, rfl⟩ := typed_b rfl (hg 1 4 1 b rfl rfl)
    obtain ⟨k, rfl, _⟩ := typed_i64 rfl (hg 2 3 2 c rfl rfl)
    obtain ⟨m, rfl, _⟩ := typed_i64 rfl (hg 3 3 3 d rfl rfl)
    obtain ⟨q, rfl⟩ := typed_b rfl (hg 4 4 4 e rfl rfl)
    exact ⟨(i, j, k, m, q), trivial, sm_int rfl, sm_sb rfl, sm_int rfl, sm_int rfl, sm_sb rfl, trivial⟩
theorem typed_en {n : Nat} {x : AV} (h : Typed C.tt (n + 2) 57 x) : ∃ p : En, True ∧ sim (fun _ => none) x (enA p) := by
  obtain ⟨xs, rfl, hl, hg⟩ : ∃ xs, x = .st xs ∧ xs.length = 2 ∧ ∀ i t o y, nth? [(9, 0), (3, 1)] i = some (t, o) → nth? xs i = some y → Typed C.tt (n + 1) t y := h
  match xs, hl with
  | [a, b], _ =>
    obtain ⟨i, rfl⟩ := typed_s rfl (hg 0 9 0 a rfl rfl)
    obtain ⟨j, rfl, _⟩ := typed_i64 rfl (hg 1 3 1 b rfl rfl)
    exact ⟨(i, j), trivial, sm_v rfl, sm_int rfl, trivial⟩
theorem dat_false {m : Nat → Option Nat} {n n' e e' : Nat} {ex ex' : Bool} {f g : Nat → AV} (h : simR m (.dat n ex e f) (.dat n' ex' e' g)) : simR m (.dat n ex e f) (.dat n' false e' g) := by
  rcases h with ⟨_, h⟩ | h
  · cases h; exact sm_dat (by simp) (fun _ _ => rfl)
  · obtain ⟨h1, _, h3, h4⟩ := h; exact .inr ⟨h1, by simp, h3, h4⟩
theorem typed_ls {β : Type} {n t s : Nat} {x : AV} (hd : (C.tt t).d = .slice s) (d0 : β) (A : β → AV) (each : ∀ y, Typed C.tt n s y → ∃ p, True ∧ sim (fun _ => none) y (A p)) (h : Typed C.tt (n + 1) t x) :
    ∃ (l : List β), l.length ≤ maxLen ∧ simR some x (.dat l.length false (C.tt s).size (fun i => A (l.getD i d0))) := by
  obtain ⟨l, ex, hl, _, hs⟩ := typed_list hd d0 A (fun _ => True) each h
  simp only [Typed, hd] at h
  obtain ⟨_, _, _, rfl, _, _⟩ := h
  exact ⟨l, hl, dat_false hs⟩
theorem typed_nd {n : Nat} {x : AV} (h : Typed C.tt (n + 4) 37 x) : ∃ p : Nd, NdOK p ∧ sim some x (ndA p) := by
  obtain ⟨xs, rfl, hl, hg⟩ : ∃ xs, x = .st xs ∧ xs.length = 8 ∧ ∀ i t o y, nth? [(3, 0), (3, 1), (3, 2), (34, 3), (35, 4), (33, 5), (3, 6), (3, 7)] i = some (t, o) → nth? xs i = some y → Typed C.tt (n + 3) t y := h
  match xs, hl with
  | [a, b, c, d, e, f, g, k], _ =>
    obtain ⟨i0, rfl, _⟩ := typed_i64 rfl (hg 0 3 0 a rfl rfl)
    obtain ⟨i1, rfl, _⟩ := typed_i64 rfl (hg 1 3 1 b rfl rfl)
    obtain ⟨i2, rfl, _⟩ := typed_i64 rfl (hg 2 3 2 c rfl rfl)
    obtain ⟨l3, h3, s3⟩ := typed_ls (s := 55) rfl (0, false, 0, 0, false) acA (fun _ hy => typed_ac hy) (hg 3 34 3 d rfl rfl)
    obtain ⟨l4, h4, s4⟩ := typed_ls (s := 57) rfl (ByteArray.empty, 0) enA (fun _ hy => typed_en hy) (hg 4 35 4 e rfl rfl)
    obtain ⟨l5, h5, s5⟩ := typed_ls (s := 53) rfl (0, 0, 0) pcA (fun _ hy => typed_pc hy) (hg 5 33 5 f rfl rfl)
    obtain ⟨i6, rfl, _⟩ := typed_i64 rfl (hg 6 3 6 g rfl rfl)
    obtain ⟨i7, rfl, _⟩ := typed_i64 rfl (hg 7 3 7 k rfl rfl)
    have : maxLen ≤ 9223372036854775807 := by decide
    exact ⟨⟨i0, i1, i2, l3, l4, l5, i6, i7⟩, ⟨by dsimp only; omega, by dsimp only; omega, by dsimp only; omega⟩, sm_int rfl, sm_int rfl, sm_int rfl, s3, s4, s5, sm_int rfl, sm_int rfl, trivial⟩
theorem typed_rp {n : Nat} {x : AV} (h : Typed C.tt (n + 5) 39 x) : ∃ p : Rp, RpOK p ∧ simR some x (rpA p) := by
  obtain ⟨xs, rfl, hl, hg⟩ : ∃ xs, x = .st xs ∧ xs.length = 5 ∧ ∀ i t o y, nth? [(26, 0), (3, 1), (32, 2), (33, 3), (37, 4)] i = some (t, o) → nth? xs i = some y → Typed C.tt (n + 4) t y := h
  match xs, hl with
  | [a, b, c, d, e], _ =>
    obtain ⟨i0, rfl, _⟩ := typed_i64 rfl (hg 0 26 0 a rfl rfl)
    obtain ⟨i1, rfl, _⟩ := typed_i64 rfl (hg 1 3 1 b rfl rfl)
    obtain ⟨l2, h2, s2⟩ := typed_ls (s := 9) rfl ByteArray.empty strA (fun _ hy => (by obtain ⟨s, rfl⟩ := typed_s rfl hy; exact ⟨s, trivial, rfl⟩)) (hg 2 32 2 c rfl rfl)
    obtain ⟨l3, h3, s3⟩ := typed_ls (s := 53) rfl (0, 0, 0) pcA (fun _ hy => typed_pc hy) (hg 3 33 3 d rfl rfl)
    obtain ⟨nd, h4, s4⟩ := typed_nd (hg 4 37 4 e rfl rfl)
    have : maxLen ≤ 9223372036854775807 := by decide
    exact ⟨⟨i0, i1, l2, l3, nd⟩, ⟨by dsimp only; omega, by dsimp only; omega, h4⟩, .inr ⟨sm_int rfl, sm_int rfl, s2, s3, .inr s4, trivial⟩⟩
theorem typed_two {n : Nat} {x : AV} (h : Typed C.tt (n + 2) 31 x) : ∃ p : Nat × Nat, (p.1 < 256 ∧ p.2 < 256) ∧ sim (fun _ => none) x (twA p) := by
  obtain ⟨z, hz, f, rfl, hf⟩ := typed_u8s (e := 5) (m := 2) rfl rfl rfl h
  refine ⟨(z 0, z 1), ⟨hz 0 (by decide), hz 1 (by decide)⟩, rfl, rfl, fun i hi => .inl ?_⟩
  match i, hi with
  | 0, _ => exact hf 0 (by decide)
  | 1, _ => exact hf 1 (by decide)
theorem typed_twos {x : AV} (h : Typed C.tt 6 22 x) : ∃ (l : List (Nat × Nat)) (ex : Bool), l.length ≤ maxLen ∧ (∀ p, p ∈ l → p.1 < 256 ∧ p.2 < 256) ∧ simR some x (dTw ex l) :=
  typed_list (s := 31) rfl (0, 0) twA (fun p => p.1 < 256 ∧ p.2 < 256) (fun _ hy => typed_two hy) h
theorem typed_ii {n : Nat} {x : AV} (h : Typed C.tt (n + 2) 60 x) : ∃ p : Int × Int, (I64 p.1 ∧ I64 p.2) ∧ simR some x (iiA p) := by
  obtain ⟨z, hz, f, rfl, hf⟩ := typed_i64s (e := 3) (m := 2) rfl rfl rfl h
  refine ⟨(z 0, z 1), ⟨hz 0 (by decide), hz 1 (by decide)⟩, sm_arr fun i hi => ?_⟩
  match i, hi with
  | 0, _ => exact hf 0 (by decide)
  | 1, _ => exact hf 1 (by decide)
end Go.Bu.W

