/- Equality of replies. -/
import Derived.Test.YtaabgmjgldinpaaK13
namespace Go.Bu.W
def qa (r s : Rp) : Bool := decide (r.e = s.e) && decide (r.n = s.n)
def qb (r s : Rp) : Bool := decide (r.names = s.names) && decide (r.body = s.body)
def qc (r s : Nd) : Bool := decide (r.id = s.id) && decide (r.kind = s.kind) && decide (r.owner = s.owner)
def qd (r s : Nd) : Bool := decide (r.links = s.links) && decide (r.ver = s.ver)
def qe (r s : Nd) : Bool := decide (r.acl = s.acl) && decide (r.list = s.list)
def qf (r s : Nd) : Bool := decide (r.body = s.body)
def eqN (r s : Nd) : Bool := qc r s && qd r s && qe r s && qf r s
def eqR (r s : Rp) : Bool := qa r s && qb r s && eqN r.nd s.nd
def condB (g : Nat) (x y : AV) : Bool :=
  if g = 30 then qa (toRp x) (toRp y) else if g = 31 then qb (toRp x) (toRp y) else if g = 34 then qc (toNd x) (toNd y) else if g = 35 then qd (toNd x) (toNd y) else if g = 36 then qe (toNd x) (toNd y) else qf (toNd x) (toNd y)
def cfB : AV → Bool
  | .fn (.func g) [.pd x, .pd y] => condB g x y
  | _ => false
def firstN (p : Nat → Bool) (n : Nat) : Nat := ((List.range n).takeWhile p).length
def crQ (q : AV → AV → Bool) : List AV → Option (AV × List (Nat × Blk))
  | [.pd x, .pd y] => some (.sb (q x y), [])
  | _ => none
def crQ7 : List AV → Option (AV × List (Nat × Blk))
  | [x] => some (.sb (!cfB x), [])
  | _ => none
def crIdx : List AV → Option (AV × List (Nat × Blk))
  | [.dat n _ _ f, _] => some (.i (if firstN (fun i => cfB (f i)) n < n then (firstN (fun i => cfB (f i)) n : Nat) else -1), [])
  | _ => none
def crCont : List AV → Option (AV × List (Nat × Blk))
  | [.dat n _ _ f, _] => some (.sb (!((List.range n).all fun i => cfB (f i))), [])
  | _ => none
def crR2 {α : Type} (h : AV → α) (q : α → α → Bool) : List AV → Option (AV × List (Nat × Blk))
  | [x, y] => some (.sb (q (h x) (h y)), [])
  | _ => none
def crN3 (g : Nat) (args : List AV) (H : List (Nat × Blk)) : Option (AV × List (Nat × Blk)) :=
  sel (Nat.beq g F_q7) (crQ7 args) <| sel (Nat.beq g F_idxF) (crIdx args) <| sel (Nat.beq g F_contF) (crCont args) <| sel (Nat.beq g F_sameR) (crR2 toRp eqR args) <|
  sel (Nat.beq g F_rNd) (crR2 toNd eqN args) <| sel (Nat.beq g F_rsameR) (crR2 toRp eqR args) <| crN2 g args H
def wayR (keep : List Nat) (nt : Nat) (cuts : List Nat) : Way := ⟨crN3, fun _ => false, keep, [], nt, cuts⟩
def wayC (keep : List Nat) (nt : Nat) (cuts : List Nat) : Way := ⟨fun g args _ => crQ (condB g) args, fun _ => false, keep, [], nt, cuts⟩
def w_q1 : Way := wayR [0, 1, 2] 15 []
def w_q2 : Way := wayR [0, 1, 2] 15 []
def w_q3 : Way := wayR [0, 1, 2] 22 []
def w_q4 : Way := wayR [0, 1, 2] 15 []
def w_q5 : Way := wayR [0, 1, 2] 15 []
def w_q6 : Way := wayR [0, 1, 2] 8 []
def w_idxF : Way := wayR [0, 1, 4, 5, 7, 8, 9, 16] 19 []
def w_contF : Way := wayR [0, 1, 4] 9 []
def w_sameR : Way := wayR [0, 1, 2, 3, 4, 5, 6, 7] 22 []
def w_rNd : Way := wayR [0, 1, 2, 3, 4] 59 []
def w_rsameR : Way := wayR [0, 1, 2, 3, 4] 38 []
def w_q7 : Way := wayC [0, 2] 6 []
abbrev fnA (g : Nat → Nat) (X Y : Nat → AV) (i : Nat) : AV := .fn (.func (g i)) [.pd (X i), .pd (Y i)]
abbrev dF (n : Nat) (g : Nat → Nat) (X Y : Nat → AV) : AV := .dat n false 1 (fnA g X Y)
def I_if (n : Nat) (g : Nat → Nat) (X Y : Nat → AV) (i : Nat) : St := { tm := [(0, dF n g X Y), (1, .fn (.func 41) []), (7, i64 n), (8, i64 i)], hp := [], seen := [] }

theorem q1_A (r s : Rp) (K : Nat) (Φ : Ex → St → Prop) :
  (Holds C P 15 [] K Φ (vc C w_q1 b_q1 [] (start [.pd (rpA r), .pd (rpA s)] []) lf)) =
  ((((W.Rp.e r) == (W.Rp.e s)) = true →
 (Φ Ex.ret (St.mk [(0, (AV.pd (W.rpA r))), (1, (AV.pd (W.rpA s))), (2, (AV.sb ((W.Rp.n r) == (W.Rp.n s))))] [] []))) ∧
 (((W.Rp.e r) == (W.Rp.e s)) = false →
 (Φ Ex.ret (St.mk [(0, (AV.pd (W.rpA r))), (1, (AV.pd (W.rpA s))), (2, (AV.v (Value.bool false)))] [] [])))) := by kernel_rfl
theorem q2_A (r s : Rp) (K : Nat) (Φ : Ex → St → Prop) :
  (Holds C P 15 [] K Φ (vc C w_q2 b_q2 [] (start [.pd (rpA r), .pd (rpA s)] []) lf)) =
  (Fun W.C W.P 32 [(W.dS false (W.Rp.names r)), (W.dS false (W.Rp.names s))] [] (AV.sb (decide ((W.toL W.asS (W.dS false (W.Rp.names r))) = (W.toL W.asS (W.dS false (W.Rp.names s)))))) [] ∧
 (True ∧
 (((decide ((W.toL W.asS (W.dS false (W.Rp.names r))) = (W.toL W.asS (W.dS false (W.Rp.names s))))) = true →
 (Fun W.C W.P 33 [(W.dPc false (W.Rp.body r)), (W.dPc false (W.Rp.body s))] [] (AV.sb (decide ((W.toL W.toPc (W.dPc false (W.Rp.body r))) = (W.toL W.toPc (W.dPc false (W.Rp.body s)))))) [] ∧
  (True ∧
  (Φ Ex.ret (St.mk [(0, (AV.pd (W.rpA r))), (1, (AV.pd (W.rpA s))), (2, (AV.sb (decide ((W.toL W.toPc (W.dPc false (W.Rp.body r))) = (W.toL W.toPc (W.dPc false (W.Rp.body s)))))))] [] []))))) ∧
 ((decide ((W.toL W.asS (W.dS false (W.Rp.names r))) = (W.toL W.asS (W.dS false (W.Rp.names s))))) = false →
 (Φ Ex.ret (St.mk [(0, (AV.pd (W.rpA r))), (1, (AV.pd (W.rpA s))), (2, (AV.v (Value.bool false)))] [] [])))))) := by kernel_rfl
theorem q3_A (r s : Nd) (K : Nat) (Φ : Ex → St → Prop) :
  (Holds C P 22 [] K Φ (vc C w_q3 b_q3 [] (start [.pd (ndA r), .pd (ndA s)] []) lf)) =
  ((((W.Nd.id r) == (W.Nd.id s)) = true →
 ((((W.Nd.kind r) == (W.Nd.kind s)) = true →
  (Φ Ex.ret (St.mk [(0, (AV.pd (W.ndA r))), (1, (AV.pd (W.ndA s))), (2, (AV.sb ((W.Nd.owner r) == (W.Nd.owner s))))] [] []))) ∧
  (((W.Nd.kind r) == (W.Nd.kind s)) = false →
  (Φ Ex.ret (St.mk [(0, (AV.pd (W.ndA r))), (1, (AV.pd (W.ndA s))), (2, (AV.v (Value.bool false)))] [] []))))) ∧
 (((W.Nd.id r) == (W.Nd.id s)) = false →
 (Φ Ex.ret (St.mk [(0, (AV.pd (W.ndA r))), (1, (AV.pd (W.ndA s))), (2, (AV.v (Value.bool false)))] [] [])))) := by kernel_rfl
theorem q4_A (r s : Nd) (K : Nat) (Φ : Ex → St → Prop) :
  (Holds C P 15 [] K Φ (vc C w_q4 b_q4 [] (start [.pd (ndA r), .pd (ndA s)] []) lf)) =
  ((((W.Nd.links r) == (W.Nd.links s)) = true →
 (Φ Ex.ret (St.mk [(0, (AV.pd (W.ndA r))), (1, (AV.pd (W.ndA s))), (2, (AV.sb ((W.Nd.ver r) == (W.Nd.ver s))))] [] []))) ∧
 (((W.Nd.links r) == (W.Nd.links s)) = false →
 (Φ Ex.ret (St.mk [(0, (AV.pd (W.ndA r))), (1, (AV.pd (W.ndA s))), (2, (AV.v (Value.bool false)))] [] [])))) := by kernel_rfl
theorem q5_A (r s : Nd) (K : Nat) (Φ : Ex → St → Prop) :
  (Holds C P 15 [] K Φ (vc C w_q5 b_q5 [] (start [.pd (ndA r), .pd (ndA s)] []) lf)) =
  (Fun W.C W.P 37 [(W.dAc false (W.Nd.acl r)), (W.dAc false (W.Nd.acl s))] [] (AV.sb (decide ((W.toL W.toAc (W.dAc false (W.Nd.acl r))) = (W.toL W.toAc (W.dAc false (W.Nd.acl s)))))) [] ∧
 (True ∧
 (((decide ((W.toL W.toAc (W.dAc false (W.Nd.acl r))) = (W.toL W.toAc (W.dAc false (W.Nd.acl s))))) = true →
 (Fun W.C W.P 38 [(W.dEn false (W.Nd.list r)), (W.dEn false (W.Nd.list s))] [] (AV.sb (decide ((W.toL W.toEn (W.dEn false (W.Nd.list r))) = (W.toL W.toEn (W.dEn false (W.Nd.list s)))))) [] ∧
  (True ∧
  (Φ Ex.ret (St.mk [(0, (AV.pd (W.ndA r))), (1, (AV.pd (W.ndA s))), (2, (AV.sb (decide ((W.toL W.toEn (W.dEn false (W.Nd.list r))) = (W.toL W.toEn (W.dEn false (W.Nd.list s)))))))] [] []))))) ∧
 ((decide ((W.toL W.toAc (W.dAc false (W.Nd.acl r))) = (W.toL W.toAc (W.dAc false (W.Nd.acl s))))) = false →
 (Φ Ex.ret (St.mk [(0, (AV.pd (W.ndA r))), (1, (AV.pd (W.ndA s))), (2, (AV.v (Value.bool false)))] [] [])))))) := by kernel_rfl
theorem q6_A (r s : Nd) (K : Nat) (Φ : Ex → St → Prop) :
  (Holds C P 8 [] K Φ (vc C w_q6 b_q6 [] (start [.pd (ndA r), .pd (ndA s)] []) lf)) =
  (Fun W.C W.P 33 [(W.dPc false (W.Nd.body r)), (W.dPc false (W.Nd.body s))] [] (AV.sb (decide ((W.toL W.toPc (W.dPc false (W.Nd.body r))) = (W.toL W.toPc (W.dPc false (W.Nd.body s)))))) [] ∧
 (True ∧
 (Φ Ex.ret (St.mk [(0, (AV.pd (W.ndA r))), (1, (AV.pd (W.ndA s))), (2, (AV.sb (decide ((W.toL W.toPc (W.dPc false (W.Nd.body r))) = (W.toL W.toPc (W.dPc false (W.Nd.body s)))))))] [] [])))) := by kernel_rfl
theorem q7_A (g : Nat) (x y : AV) (K : Nat) (Φ : Ex → St → Prop) :
  (Holds C P 6 [] K Φ (vc C w_q7 b_q7 [] (start [.fn (.func g) [.pd x, .pd y]] []) lf)) =
  (Fun W.C W.P g [(AV.pd x), (AV.pd y)] [] (AV.sb (W.condB g x y)) [] ∧
 (True ∧
 (Φ Ex.ret (St.mk [(0, (AV.fn (Fn.func g) [(AV.pd x), (AV.pd y)])), (2, (AV.sb (! (W.condB g x y))))] [] [])))) := by kernel_rfl
theorem idxF_A (n : Nat) (g : Nat → Nat) (X Y : Nat → AV) (K : Nat) (Φ : Ex → St → Prop) :
  (Holds C P 19 [] K Φ (vc C w_idxF b_idxF [] (start [dF n g X Y, .fn (.func 41) []] []) lf)) =
  (LoopOK W.C W.P 19 [] K (bodyAt b_idxF [1, 0, 1, 0]) (St.mk [(0, (AV.dat n false 1 (W.fnA g X Y))), (1, (AV.fn (Fn.func (41 : FuncId)) [])), (4, (AV.i (0 : Int))), (7, (AV.i ((n : Nat) : Int))), (8, (AV.i (0 : Int)))] [] []) (fun (e : Ex) (S' : St) => Holds W.C W.P 19 [] K Φ (after W.C w_idxF b_idxF [1, 0, 1, 0] [] lf e S'))) := by kernel_rfl
noncomputable abbrev bd_idxF_0 : Code := bodyAt (b_idxF) [1, 0, 1, 0]
theorem ok_idxF_0 : codeOK bd_idxF_0 = true := by kernel_rfl
noncomputable abbrev rest_idxF_0 (K : Nat) (Φ : Ex → St → Prop) : Ex → St → Prop := fun e S' => Holds C P 19 [] K Φ (after C w_idxF (b_idxF) [1, 0, 1, 0] [] lf e S')
theorem idxF_L0 (n : Nat) (g : Nat → Nat) (X Y : Nat → AV) (i : Nat) (K : Nat) (Φ : Ex → St → Prop) :
  (Holds C P 19 [] K (RoundQ C 19 [] K (I_if n g X Y) (fun i => i ≤ n ∧ ∀ k, k < i → condB (g k) (X k) (Y k) = true) (fun i => n - i) ((fun i => n - i) (i)) (rest_idxF_0 K Φ)) (vc C w_idxF bd_idxF_0 [] ((I_if n g X Y) (i)) lf)) =
  (((decide (((i : Nat) : Int) < ((n : Nat) : Int))) = true →
 ((((0 : Int) ≤ ((i : Nat) : Int)) ∧ (((i : Nat) : Int) < ((n : Nat) : Int))) ∧
  (Fun W.C W.P (41 : FuncId) [(AV.fn (Fn.func (g i)) [(AV.pd (X i)), (AV.pd (Y i))])] [] (AV.sb (! (W.cfB (AV.fn (Fn.func (g i)) [(AV.pd (X i)), (AV.pd (Y i))])))) [] ∧
  (True ∧
  (((! (W.cfB (AV.fn (Fn.func (g i)) [(AV.pd (X i)), (AV.pd (Y i))]))) = true →
  (Φ Ex.ret (St.mk [(0, (AV.dat n false 1 (W.fnA g X Y))), (1, (AV.fn (Fn.func (41 : FuncId)) [])), (4, (AV.i ((i : Nat) : Int))), (5, (AV.i ((i : Nat) : Int))), (7, (AV.i ((n : Nat) : Int))), (8, (AV.i ((i : Nat) : Int))), (9, (AV.v (Value.bool true))), (16, (AV.v (Value.bool true)))] [] []))) ∧
  ((! (W.cfB (AV.fn (Fn.func (g i)) [(AV.pd (X i)), (AV.pd (Y i))]))) = false →
  ((I64 (((i + 1) : Nat) : Int)) ∧
   ((RoundQ C 19 [] K (I_if n g X Y) (fun i => i ≤ n ∧ ∀ k, k < i → condB (g k) (X k) (Y k) = true) (fun i => n - i) ((fun i => n - i) (i)) (rest_idxF_0 K Φ)) Ex.normal (St.mk [(0, (AV.dat n false 1 (W.fnA g X Y))), (1, (AV.fn (Fn.func (41 : FuncId)) [])), (5, (AV.i ((i : Nat) : Int))), (7, (AV.i ((n : Nat) : Int))), (8, (AV.i (((i + 1) : Nat) : Int))), (9, (AV.v (Value.bool true))), (16, (AV.v (Value.bool false)))] [] []))))))))) ∧
 ((decide (((i : Nat) : Int) < ((n : Nat) : Int))) = false →
 (Φ Ex.ret (St.mk [(0, (AV.dat n false 1 (W.fnA g X Y))), (1, (AV.fn (Fn.func (41 : FuncId)) [])), (4, (AV.i (-1 : Int))), (7, (AV.i ((n : Nat) : Int))), (8, (AV.i ((i : Nat) : Int))), (9, (AV.v (Value.bool false)))] [] [])))) := by kernel_rfl
theorem contF_A (n : Nat) (g : Nat → Nat) (X Y : Nat → AV) (K : Nat) (Φ : Ex → St → Prop) :
  (Holds C P 9 [] K Φ (vc C w_contF b_contF [] (start [dF n g X Y, .fn (.func 41) []] []) lf)) =
  (Fun W.C W.P 50 [(AV.dat n false 1 (W.fnA g X Y)), (AV.fn (Fn.func (41 : FuncId)) [])] [] (AV.i (if ((W.firstN (fun (i : Nat) => (W.cfB (AV.fn (Fn.func (g i)) [(AV.pd (X i)), (AV.pd (Y i))]))) n) < n) then (((W.firstN (fun (i : Nat) => (W.cfB (AV.fn (Fn.func (g i)) [(AV.pd (X i)), (AV.pd (Y i))]))) n) : Nat) : Int) else (-1 : Int))) [] ∧
 (True ∧
 (Φ Ex.ret (St.mk [(0, (AV.dat n false 1 (W.fnA g X Y))), (1, (AV.fn (Fn.func (41 : FuncId)) [])), (4, (AV.sb (decide ((if ((W.firstN (fun (i : Nat) => (W.cfB (AV.fn (Fn.func (g i)) [(AV.pd (X i)), (AV.pd (Y i))]))) n) < n) then (((W.firstN (fun (i : Nat) => (W.cfB (AV.fn (Fn.func (g i)) [(AV.pd (X i)), (AV.pd (Y i))]))) n) : Nat) : Int) else (-1 : Int)) ≥ (0 : Int)))))] [] [])))) := by kernel_rfl
theorem sameR_A (r s : Rp) (K : Nat) (Φ : Ex → St → Prop) :
  (Holds C P 22 [] K Φ (vc C w_sameR b_sameR [] (start [rpA r, rpA s] []) lf)) =
  ((((true = true) ∧ (true = true)) ∧ (((true = true) ∧ (true = true)) ∧ (((true = true) ∧ (true = true)) ∧ (((true = true) ∧ (true = true)) ∧ (((true = true) ∧ (true = true)) ∧ (((true = true) ∧ (true = true)) ∧ (W.Sh2))))))) ∧
 ((((true = true) ∧ (true = true)) ∧ (((true = true) ∧ (true = true)) ∧ (((true = true) ∧ (true = true)) ∧ (((true = true) ∧ (true = true)) ∧ (((true = true) ∧ (true = true)) ∧ (((true = true) ∧ (true = true)) ∧ (W.Sh2))))))) ∧
 (Fun W.C W.P 40 [(AV.dat 6 false 1 (fun (i : Nat) => (nthD [(AV.fn (Fn.func 30) [(AV.pd (W.rpA r)), (AV.pd (W.rpA s))]), (AV.fn (Fn.func 31) [(AV.pd (W.rpA r)), (AV.pd (W.rpA s))]), (AV.fn (Fn.func 34) [(AV.pd (W.ndA (W.Rp.nd r))), (AV.pd (W.ndA (W.Rp.nd s)))]), (AV.fn (Fn.func 35) [(AV.pd (W.ndA (W.Rp.nd r))), (AV.pd (W.ndA (W.Rp.nd s)))]), (AV.fn (Fn.func 36) [(AV.pd (W.ndA (W.Rp.nd r))), (AV.pd (W.ndA (W.Rp.nd s)))]), (AV.fn (Fn.func 39) [(AV.pd (W.ndA (W.Rp.nd r))), (AV.pd (W.ndA (W.Rp.nd s)))])] (0 + i) (AV.v (Value.tuple (List.toArray [])))))), (AV.fn (Fn.func 41) [])] [] (AV.sb (! (List.all (List.range 6) (fun (i : Nat) => (W.cfB (nthD [(AV.fn (Fn.func 30) [(AV.pd (W.rpA r)), (AV.pd (W.rpA s))]), (AV.fn (Fn.func 31) [(AV.pd (W.rpA r)), (AV.pd (W.rpA s))]), (AV.fn (Fn.func 34) [(AV.pd (W.ndA (W.Rp.nd r))), (AV.pd (W.ndA (W.Rp.nd s)))]), (AV.fn (Fn.func 35) [(AV.pd (W.ndA (W.Rp.nd r))), (AV.pd (W.ndA (W.Rp.nd s)))]), (AV.fn (Fn.func 36) [(AV.pd (W.ndA (W.Rp.nd r))), (AV.pd (W.ndA (W.Rp.nd s)))]), (AV.fn (Fn.func 39) [(AV.pd (W.ndA (W.Rp.nd r))), (AV.pd (W.ndA (W.Rp.nd s)))])] (0 + i) (AV.v (Value.tuple (List.toArray []))))))))) [] ∧
 (True ∧
 (Φ Ex.ret (St.mk [(0, (W.rpA r)), (1, (W.rpA s)), (2, (AV.ptr 2 [])), (3, (AV.ptr 3 [])), (4, (AV.sb (! (! (List.all (List.range 6) (fun (i : Nat) => (W.cfB (nthD [(AV.fn (Fn.func 30) [(AV.pd (W.rpA r)), (AV.pd (W.rpA s))]), (AV.fn (Fn.func 31) [(AV.pd (W.rpA r)), (AV.pd (W.rpA s))]), (AV.fn (Fn.func 34) [(AV.pd (W.ndA (W.Rp.nd r))), (AV.pd (W.ndA (W.Rp.nd s)))]), (AV.fn (Fn.func 35) [(AV.pd (W.ndA (W.Rp.nd r))), (AV.pd (W.ndA (W.Rp.nd s)))]), (AV.fn (Fn.func 36) [(AV.pd (W.ndA (W.Rp.nd r))), (AV.pd (W.ndA (W.Rp.nd s)))]), (AV.fn (Fn.func 39) [(AV.pd (W.ndA (W.Rp.nd r))), (AV.pd (W.ndA (W.Rp.nd s)))])] (0 + i) (AV.v (Value.tuple (List.toArray []))))))))))), (5, (AV.ptr 5 [])), (6, (AV.ptr 6 [])), (7, (AV.sl 18 [] 0 6 6 true 1))] [(2, (Blk.c (W.rpA r))), (3, (Blk.c (W.rpA s))), (5, (Blk.c (W.ndA (W.Rp.nd r)))), (6, (Blk.c (W.ndA (W.Rp.nd s)))), (18, (Blk.c (AV.st [(AV.fn (Fn.func 30) [(AV.ptr 2 []), (AV.ptr 3 [])]), (AV.fn (Fn.func 31) [(AV.ptr 2 []), (AV.ptr 3 [])]), (AV.fn (Fn.func 34) [(AV.ptr 5 []), (AV.ptr 6 [])]), (AV.fn (Fn.func 35) [(AV.ptr 5 []), (AV.ptr 6 [])]), (AV.fn (Fn.func 36) [(AV.ptr 5 []), (AV.ptr 6 [])]), (AV.fn (Fn.func 39) [(AV.ptr 5 []), (AV.ptr 6 [])])])))] [18, 6, 5, 3, 2])))))) := by kernel_rfl
theorem rNd_A (r s : Nd) (K : Nat) (Φ : Ex → St → Prop) :
  (Holds C P 59 [] K Φ (vc C w_rNd b_rNd [] (start [ndA r, ndA s] []) lf)) =
  ((((W.Nd.id r) == (W.Nd.id s)) = true →
 ((((W.Nd.kind r) == (W.Nd.kind s)) = true →
  ((((W.Nd.owner r) == (W.Nd.owner s)) = true →
   ((((W.Nd.links r) == (W.Nd.links s)) = true →
    ((((W.Nd.ver r) == (W.Nd.ver s)) = true →
     (Fun W.C W.P 56 [(W.dAc false (W.Nd.acl r)), (W.dAc false (W.Nd.acl s))] [] (AV.sb (decide ((W.toL W.toAc (W.dAc false (W.Nd.acl r))) = (W.toL W.toAc (W.dAc false (W.Nd.acl s)))))) [] ∧
      (True ∧
      (((decide ((W.toL W.toAc (W.dAc false (W.Nd.acl r))) = (W.toL W.toAc (W.dAc false (W.Nd.acl s))))) = true →
      (Fun W.C W.P 57 [(W.dEn false (W.Nd.list r)), (W.dEn false (W.Nd.list s))] [] (AV.sb (decide ((W.toL W.toEn (W.dEn false (W.Nd.list r))) = (W.toL W.toEn (W.dEn false (W.Nd.list s)))))) [] ∧
       (True ∧
       (((decide ((W.toL W.toEn (W.dEn false (W.Nd.list r))) = (W.toL W.toEn (W.dEn false (W.Nd.list s))))) = true →
       (Fun W.C W.P 48 [(W.dPc false (W.Nd.body r)), (W.dPc false (W.Nd.body s))] [] (AV.sb (decide ((W.toL W.toPc (W.dPc false (W.Nd.body r))) = (W.toL W.toPc (W.dPc false (W.Nd.body s)))))) [] ∧
        (True ∧
        (Φ Ex.ret (St.mk [(0, (W.ndA r)), (1, (W.ndA s)), (2, (AV.ptr 2 [])), (3, (AV.ptr 3 [])), (4, (AV.sb (decide ((W.toL W.toPc (W.dPc false (W.Nd.body r))) = (W.toL W.toPc (W.dPc false (W.Nd.body s)))))))] [(2, (Blk.c (W.ndA r))), (3, (Blk.c (W.ndA s)))] [3, 2]))))) ∧
       ((decide ((W.toL W.toEn (W.dEn false (W.Nd.list r))) = (W.toL W.toEn (W.dEn false (W.Nd.list s))))) = false →
       (Φ Ex.ret (St.mk [(0, (W.ndA r)), (1, (W.ndA s)), (2, (AV.ptr 2 [])), (3, (AV.ptr 3 [])), (4, (AV.v (Value.bool false)))] [(2, (Blk.c (W.ndA r))), (3, (Blk.c (W.ndA s)))] [3, 2]))))))) ∧
      ((decide ((W.toL W.toAc (W.dAc false (W.Nd.acl r))) = (W.toL W.toAc (W.dAc false (W.Nd.acl s))))) = false →
      (Φ Ex.ret (St.mk [(0, (W.ndA r)), (1, (W.ndA s)), (2, (AV.ptr 2 [])), (3, (AV.ptr 3 [])), (4, (AV.v (Value.bool false)))] [(2, (Blk.c (W.ndA r))), (3, (Blk.c (W.ndA s)))] [3, 2]))))))) ∧
     (((W.Nd.ver r) == (W.Nd.ver s)) = false →
     (Φ Ex.ret (St.mk [(0, (W.ndA r)), (1, (W.ndA s)), (2, (AV.ptr 2 [])), (3, (AV.ptr 3 [])), (4, (AV.v (Value.bool false)))] [(2, (Blk.c (W.ndA r))), (3, (Blk.c (W.ndA s)))] [3, 2]))))) ∧
    (((W.Nd.links r) == (W.Nd.links s)) = false →
    (Φ Ex.ret (St.mk [(0, (W.ndA r)), (1, (W.ndA s)), (2, (AV.ptr 2 [])), (3, (AV.ptr 3 [])), (4, (AV.v (Value.bool false)))] [(2, (Blk.c (W.ndA r))), (3, (Blk.c (W.ndA s)))] [3, 2]))))) ∧
   (((W.Nd.owner r) == (W.Nd.owner s)) = false →
   (Φ Ex.ret (St.mk [(0, (W.ndA r)), (1, (W.ndA s)), (2, (AV.ptr 2 [])), (3, (AV.ptr 3 [])), (4, (AV.v (Value.bool false)))] [(2, (Blk.c (W.ndA r))), (3, (Blk.c (W.ndA s)))] [3, 2]))))) ∧
  (((W.Nd.kind r) == (W.Nd.kind s)) = false →
  (Φ Ex.ret (St.mk [(0, (W.ndA r)), (1, (W.ndA s)), (2, (AV.ptr 2 [])), (3, (AV.ptr 3 [])), (4, (AV.v (Value.bool false)))] [(2, (Blk.c (W.ndA r))), (3, (Blk.c (W.ndA s)))] [3, 2]))))) ∧
 (((W.Nd.id r) == (W.Nd.id s)) = false →
 (Φ Ex.ret (St.mk [(0, (W.ndA r)), (1, (W.ndA s)), (2, (AV.ptr 2 [])), (3, (AV.ptr 3 [])), (4, (AV.v (Value.bool false)))] [(2, (Blk.c (W.ndA r))), (3, (Blk.c (W.ndA s)))] [3, 2])))) := by kernel_rfl
theorem rsameR_A (r s : Rp) (K : Nat) (Φ : Ex → St → Prop) :
  (Holds C P 38 [] K Φ (vc C w_rsameR b_rsameR [] (start [rpA r, rpA s] []) lf)) =
  ((((W.Rp.e r) == (W.Rp.e s)) = true →
 ((((W.Rp.n r) == (W.Rp.n s)) = true →
  (Fun W.C W.P 47 [(W.dS false (W.Rp.names r)), (W.dS false (W.Rp.names s))] [] (AV.sb (decide ((W.toL W.asS (W.dS false (W.Rp.names r))) = (W.toL W.asS (W.dS false (W.Rp.names s)))))) [] ∧
   (True ∧
   (((decide ((W.toL W.asS (W.dS false (W.Rp.names r))) = (W.toL W.asS (W.dS false (W.Rp.names s))))) = true →
   (Fun W.C W.P 48 [(W.dPc false (W.Rp.body r)), (W.dPc false (W.Rp.body s))] [] (AV.sb (decide ((W.toL W.toPc (W.dPc false (W.Rp.body r))) = (W.toL W.toPc (W.dPc false (W.Rp.body s)))))) [] ∧
    (True ∧
    (((decide ((W.toL W.toPc (W.dPc false (W.Rp.body r))) = (W.toL W.toPc (W.dPc false (W.Rp.body s))))) = true →
    (Fun W.C W.P 49 [(W.ndA (W.Rp.nd r)), (W.ndA (W.Rp.nd s))] [] (AV.sb (W.eqN (W.toNd (W.ndA (W.Rp.nd r))) (W.toNd (W.ndA (W.Rp.nd s))))) [] ∧
     (True ∧
     (Φ Ex.ret (St.mk [(0, (W.rpA r)), (1, (W.rpA s)), (2, (AV.ptr 2 [])), (3, (AV.ptr 3 [])), (4, (AV.sb (W.eqN (W.toNd (W.ndA (W.Rp.nd r))) (W.toNd (W.ndA (W.Rp.nd s))))))] [(2, (Blk.c (W.rpA r))), (3, (Blk.c (W.rpA s)))] [3, 2]))))) ∧
    ((decide ((W.toL W.toPc (W.dPc false (W.Rp.body r))) = (W.toL W.toPc (W.dPc false (W.Rp.body s))))) = false →
    (Φ Ex.ret (St.mk [(0, (W.rpA r)), (1, (W.rpA s)), (2, (AV.ptr 2 [])), (3, (AV.ptr 3 [])), (4, (AV.v (Value.bool false)))] [(2, (Blk.c (W.rpA r))), (3, (Blk.c (W.rpA s)))] [3, 2]))))))) ∧
   ((decide ((W.toL W.asS (W.dS false (W.Rp.names r))) = (W.toL W.asS (W.dS false (W.Rp.names s))))) = false →
   (Φ Ex.ret (St.mk [(0, (W.rpA r)), (1, (W.rpA s)), (2, (AV.ptr 2 [])), (3, (AV.ptr 3 [])), (4, (AV.v (Value.bool false)))] [(2, (Blk.c (W.rpA r))), (3, (Blk.c (W.rpA s)))] [3, 2]))))))) ∧
  (((W.Rp.n r) == (W.Rp.n s)) = false →
  (Φ Ex.ret (St.mk [(0, (W.rpA r)), (1, (W.rpA s)), (2, (AV.ptr 2 [])), (3, (AV.ptr 3 [])), (4, (AV.v (Value.bool false)))] [(2, (Blk.c (W.rpA r))), (3, (Blk.c (W.rpA s)))] [3, 2]))))) ∧
 (((W.Rp.e r) == (W.Rp.e s)) = false →
 (Φ Ex.ret (St.mk [(0, (W.rpA r)), (1, (W.rpA s)), (2, (AV.ptr 2 [])), (3, (AV.ptr 3 [])), (4, (AV.v (Value.bool false)))] [(2, (Blk.c (W.rpA r))), (3, (Blk.c (W.rpA s)))] [3, 2])))) := by kernel_rfl

def NdOK (n : Nd) : Prop := n.acl.length ≤ 9223372036854775807 ∧ n.list.length ≤ 9223372036854775807 ∧ n.body.length ≤ 9223372036854775807
def RpOK (r : Rp) : Prop := r.names.length ≤ 9223372036854775807 ∧ r.body.length ≤ 9223372036854775807 ∧ NdOK r.nd
theorem dec_and {p q : Prop} [Decidable p] [Decidable q] {b : Bool} (h : b = decide p) (hb : b = true) : (decide p && decide q) = decide q := by rw [← h, hb]; rfl
theorem q1_fun (r s : Rp) : Fun C P F_q1 [.pd (rpA r), .pd (rpA s)] [] (.sb (qa r s)) [] := by
  refine in_q1 (W := w_q1) rfl 0 (by simp) rfl (fun id h => absurd rfl h) ?_
  refine of_eq (q1_A r s 0 _) ⟨fun h => post_tmp rfl (sm_sb ?_), fun h => post_tmp rfl (sm_b ?_)⟩ <;> rw [beq_dec] at h <;> simp [qa, h, beq_dec]
theorem q2_fun (r s : Rp) (hr : RpOK r) : Fun C P F_q2 [.pd (rpA r), .pd (rpA s)] [] (.sb (qb r s)) [] := by
  refine in_q2 (W := w_q2) rfl 0 (by simp) rfl (fun id h => absurd rfl h) ?_
  refine of_eq (q2_A r s 0 _) ?_
  simp only [toS_A, toPc_A]
  refine ⟨eqS_fun _ _ _ _ hr.1, trivial, fun h => ⟨eqP_fun _ _ _ _ hr.2.1, trivial, post_tmp rfl (sm_sb ?_)⟩, fun h => post_tmp rfl (sm_b ?_)⟩ <;> simp [qb, h]
theorem q3_fun (r s : Nd) : Fun C P F_q3 [.pd (ndA r), .pd (ndA s)] [] (.sb (qc r s)) [] := by
  refine in_q3 (W := w_q3) rfl 0 (by simp) rfl (fun id h => absurd rfl h) ?_
  refine of_eq (q3_A r s 0 _) ⟨fun h => ⟨fun h2 => post_tmp rfl (sm_sb ?_), fun h2 => post_tmp rfl (sm_b ?_)⟩, fun h => post_tmp rfl (sm_b ?_)⟩ <;> rw [beq_dec] at h <;> simp [qc, h, beq_dec] <;> simp_all [beq_dec]
theorem q4_fun (r s : Nd) : Fun C P F_q4 [.pd (ndA r), .pd (ndA s)] [] (.sb (qd r s)) [] := by
  refine in_q4 (W := w_q4) rfl 0 (by simp) rfl (fun id h => absurd rfl h) ?_
  refine of_eq (q4_A r s 0 _) ⟨fun h => post_tmp rfl (sm_sb ?_), fun h => post_tmp rfl (sm_b ?_)⟩ <;> rw [beq_dec] at h <;> simp [qd, h, beq_dec]
theorem q5_fun (r s : Nd) (hr : NdOK r) : Fun C P F_q5 [.pd (ndA r), .pd (ndA s)] [] (.sb (qe r s)) [] := by
  refine in_q5 (W := w_q5) rfl 0 (by simp) rfl (fun id h => absurd rfl h) ?_
  refine of_eq (q5_A r s 0 _) ?_
  simp only [toAc_A, toEn_A]
  refine ⟨eqA_fun _ _ _ _ hr.1, trivial, fun h => ⟨eqE_fun _ _ _ _ hr.2.1, trivial, post_tmp rfl (sm_sb ?_)⟩, fun h => post_tmp rfl (sm_b ?_)⟩ <;> simp [qe, h]
theorem q6_fun (r s : Nd) (hr : NdOK r) : Fun C P F_q6 [.pd (ndA r), .pd (ndA s)] [] (.sb (qf r s)) [] := by
  refine in_q6 (W := w_q6) rfl 0 (by simp) rfl (fun id h => absurd rfl h) ?_
  refine of_eq (q6_A r s 0 _) ?_
  simp only [toPc_A]
  exact ⟨eqP_fun _ _ _ _ hr.2.2, trivial, post_tmp rfl (sm_sb rfl)⟩
theorem q7_fun (g : Nat) (x y : AV) (h : Fun C P g [.pd x, .pd y] [] (.sb (condB g x y)) []) : Fun C P F_q7 [.fn (.func g) [.pd x, .pd y]] [] (.sb (!condB g x y)) [] := by
  refine in_q7 (W := w_q7) rfl 0 (by simp) rfl (fun id h => absurd rfl h) ?_
  exact of_eq (q7_A g x y 0 _) ⟨h, trivial, post_tmp rfl (sm_sb rfl)⟩
theorem firstN_at {p : Nat → Bool} {n i : Nat} (hi : i ≤ n) (h1 : ∀ k, k < i → p k = true) (h2 : i < n → p i = false) : firstN p n = i := by
  have hg : ∀ k, k < n → (List.range n).getD k 0 = k := fun k hk => by simp [List.getD_eq_getElem?_getD, hk]
  refine tw_len (d := 0) (by simpa using hi) (fun k hk => ?_) fun h => ?_
  · rw [hg k (by omega)]; exact h1 k hk
  · have h := (List.length_range (n := n)) ▸ h
    rw [hg i h]; exact h2 h
theorem firstN_all (p : Nat → Bool) (n : Nat) : ((List.range n).all p = true ∧ firstN p n = n) ∨ ((List.range n).all p = false ∧ firstN p n < n) := by
  cases h : (List.range n).all p with
  | true =>
    have h' := List.all_eq_true.1 h
    exact .inl ⟨rfl, firstN_at (Nat.le_refl _) (fun k hk => h' k (List.mem_range.2 hk)) fun h => absurd h (Nat.lt_irrefl _)⟩
  | false =>
    refine .inr ⟨rfl, Classical.byContradiction fun hn => ?_⟩
    obtain ⟨h1, h2, _⟩ := tw_spec p 0 (List.range n)
    have : (List.range n).all p = true := List.all_eq_true.2 fun k hk => by
      have hk := List.mem_range.1 hk
      have := h2 k (by unfold firstN at hn; omega)
      simpa [List.getD_eq_getElem?_getD, hk] using this
    rw [h] at this; cases this
theorem idxF_fun (n : Nat) (g : Nat → Nat) (X Y : Nat → AV) (hn : n < 2 ^ 40) (hF : ∀ i, i < n → Fun C P (g i) [.pd (X i), .pd (Y i)] [] (.sb (condB (g i) (X i) (Y i))) []) : Fun C P F_idxF [dF n g X Y, .fn (.func 41) []] [] (.i (if firstN (fun i => condB (g i) (X i) (Y i)) n < n then (firstN (fun i => condB (g i) (X i) (Y i)) n : Nat) else -1)) [] := by
  refine in_idxF (W := w_idxF) rfl 0 (by simp) rfl (fun id h => absurd rfl h) ?_
  refine of_eq (idxF_A n g X Y 0 _) ?_
  refine loop_inv (W := w_idxF) ctx mixed ok_idxF_0 (I_if n g X Y) (fun i => i ≤ n ∧ ∀ k, k < i → condB (g k) (X k) (Y k) = true) (fun i => n - i) 0 ⟨Nat.zero_le _, fun k hk => absurd hk (Nat.not_lt_zero k)⟩ ?_ fun i hi => ?_
  · exact ent_of [] rfl (tm_cons rfl (sm_same rfl) (tm_cons rfl (sm_same rfl) (tm_cons rfl (sm_same rfl) (tm_cons rfl (sm_same rfl) tm_nil)))) hp_nil
  obtain ⟨hi, hz⟩ := hi
  refine of_eq (idxF_L0 n g X Y i 0 _) ⟨fun h => ?_, fun h => ?_⟩
  · have h := of_decide_eq_true h
    refine ⟨(by first | omega | decide | (unfold I64; omega)), q7_fun _ _ _ (hF i (by omega)), trivial, fun h2 => ?_, fun h2 => ?_⟩
    · have h2 : condB (g i) (X i) (Y i) = false := bnt h2
      refine post_tmp rfl (sm_int ?_)
      rw [firstN_at (by omega) hz fun _ => h2, if_pos (by omega)]
    · have h2 : condB (g i) (X i) (Y i) = true := bnf h2
      exact ⟨(by first | omega | decide | (unfold I64; omega)), round_end (i + 1) ⟨by omega, fun k hk => by
        by_cases e : k = i
        · rw [e]; exact h2
        · exact hz k (by omega)⟩ (ent_of [] rfl (tm_cons rfl (sm_same rfl) (tm_cons rfl (sm_same rfl) (tm_cons rfl (sm_same rfl) (tm_cons rfl (sm_same rfl) tm_nil)))) hp_nil) (by dsimp only; omega)⟩
  · have h := of_decide_eq_false h
    obtain rfl : i = n := by omega
    refine post_tmp rfl (sm_int ?_)
    rw [firstN_at (Nat.le_refl _) hz fun h => absurd h (Nat.lt_irrefl _), if_neg (Nat.lt_irrefl _)]
theorem contF_fun (n : Nat) (g : Nat → Nat) (X Y : Nat → AV) (hn : n < 2 ^ 40) (hF : ∀ i, i < n → Fun C P (g i) [.pd (X i), .pd (Y i)] [] (.sb (condB (g i) (X i) (Y i))) []) : Fun C P F_contF [dF n g X Y, .fn (.func 41) []] [] (.sb (!((List.range n).all fun i => condB (g i) (X i) (Y i)))) [] := by
  refine in_contF (W := w_contF) rfl 0 (by simp) rfl (fun id h => absurd rfl h) ?_
  refine of_eq (contF_A n g X Y 0 _) ⟨idxF_fun n g X Y hn hF, trivial, post_tmp rfl (sm_sb ?_)⟩
  have e : (fun i => cfB (AV.fn (Fn.func (g i)) [AV.pd (X i), AV.pd (Y i)])) = fun i => condB (g i) (X i) (Y i) := rfl
  rw [e]
  rcases firstN_all (fun i => condB (g i) (X i) (Y i)) n with ⟨h1, h2⟩ | ⟨h1, h2⟩
  · rw [h1, h2, if_neg (Nat.lt_irrefl _)]; rfl
  · rw [h1, if_pos h2]; simp
theorem eqN_iff {r s : Nd} : eqN r s = true ↔ r = s := by
  obtain ⟨a1, a2, a3, a4, a5, a6, a7, a8⟩ := r
  obtain ⟨b1, b2, b3, b4, b5, b6, b7, b8⟩ := s
  simp only [eqN, qc, qd, qe, qf, Bool.and_eq_true, decide_eq_true_eq, Nd.mk.injEq]
  constructor
  · rintro ⟨⟨⟨⟨⟨h1, h2⟩, h3⟩, h7, h8⟩, h4, h5⟩, h6⟩; exact ⟨h1, h2, h3, h4, h5, h6, h7, h8⟩
  · rintro ⟨h1, h2, h3, h4, h5, h6, h7, h8⟩; exact ⟨⟨⟨⟨⟨h1, h2⟩, h3⟩, h7, h8⟩, h4, h5⟩, h6⟩
theorem eqR_iff {r s : Rp} : eqR r s = true ↔ r = s := by
  obtain ⟨a1, a2, a3, a4, a5⟩ := r
  obtain ⟨b1, b2, b3, b4, b5⟩ := s
  simp only [eqR, qa, qb, Bool.and_eq_true, decide_eq_true_eq, Rp.mk.injEq, eqN_iff]
  constructor
  · rintro ⟨⟨⟨h1, h2⟩, h3, h4⟩, h5⟩; exact ⟨h1, h2, h3, h4, h5⟩
  · rintro ⟨h1, h2, h3, h4, h5⟩; exact ⟨⟨⟨h1, h2⟩, h3, h4⟩, h5⟩
def gF (i : Nat) : Nat := nthD [30, 31, 34, 35, 36, 39] i 0
def xF (r : Rp) (i : Nat) : AV := if i < 2 then rpA r else ndA r.nd
theorem sameR_fun (r s : Rp) (hr : RpOK r) : Fun C P F_sameR [rpA r, rpA s] [] (.sb (eqR r s)) [] := by
  refine in_sameR (W := w_sameR) rfl 0 (by simp) rfl (fun id h => absurd rfl h) ?_
  refine of_eq (sameR_A r s 0 _) ⟨by simp, by simp, ?_, trivial, ?_⟩
  · refine (contF_fun 6 gF (xF r) (xF s) (by decide) fun i hi => ?_).sim ⟨sm_dat (by simp) fun i hi => ?_, sm_same rfl, trivial⟩ trivial
    · match i, hi with
      | 0, _ =>
        have e : condB 30 (rpA r) (rpA s) = qa r s := by simp [condB, toRp_A]
        show Fun C P 30 [.pd (rpA r), .pd (rpA s)] [] (.sb (condB 30 (rpA r) (rpA s))) []
        rw [e]; exact q1_fun r s
      | 1, _ =>
        have e : condB 31 (rpA r) (rpA s) = qb r s := by simp [condB, toRp_A]
        show Fun C P 31 [.pd (rpA r), .pd (rpA s)] [] (.sb (condB 31 (rpA r) (rpA s))) []
        rw [e]; exact q2_fun r s hr
      | 2, _ =>
        have e : condB 34 (ndA r.nd) (ndA s.nd) = qc r.nd s.nd := by simp [condB, toNd_A]
        show Fun C P 34 [.pd (ndA r.nd), .pd (ndA s.nd)] [] (.sb (condB 34 (ndA r.nd) (ndA s.nd))) []
        rw [e]; exact q3_fun r.nd s.nd
      | 3, _ =>
        have e : condB 35 (ndA r.nd) (ndA s.nd) = qd r.nd s.nd := by simp [condB, toNd_A]
        show Fun C P 35 [.pd (ndA r.nd), .pd (ndA s.nd)] [] (.sb (condB 35 (ndA r.nd) (ndA s.nd))) []
        rw [e]; exact q4_fun r.nd s.nd
      | 4, _ =>
        have e : condB 36 (ndA r.nd) (ndA s.nd) = qe r.nd s.nd := by simp [condB, toNd_A]
        show Fun C P 36 [.pd (ndA r.nd), .pd (ndA s.nd)] [] (.sb (condB 36 (ndA r.nd) (ndA s.nd))) []
        rw [e]; exact q5_fun r.nd s.nd hr.2.2
      | 5, _ =>
        have e : condB 39 (ndA r.nd) (ndA s.nd) = qf r.nd s.nd := by simp [condB, toNd_A]
        show Fun C P 39 [.pd (ndA r.nd), .pd (ndA s.nd)] [] (.sb (condB 39 (ndA r.nd) (ndA s.nd))) []
        rw [e]; exact q6_fun r.nd s.nd hr.2.2
    · match i, hi with
      | 0, _ => rfl
      | 1, _ => rfl
      | 2, _ => rfl
      | 3, _ => rfl
      | 4, _ => rfl
      | 5, _ => rfl
  · refine post_tmp rfl (sm_sb ?_)
    rw [Bool.not_not]
    change (qa (toRp (rpA r)) (toRp (rpA s)) && (qb (toRp (rpA r)) (toRp (rpA s)) && (qc (toNd (ndA r.nd)) (toNd (ndA s.nd)) && (qd (toNd (ndA r.nd)) (toNd (ndA s.nd)) && (qe (toNd (ndA r.nd)) (toNd (ndA s.nd)) && (qf (toNd (ndA r.nd)) (toNd (ndA s.nd)) && true)))))) = _
    simp only [toRp_A, toNd_A, eqR, eqN, Bool.and_true, Bool.and_assoc]
theorem rNd_fun (r s : Nd) (hr : NdOK r) : Fun C P F_rNd [ndA r, ndA s] [] (.sb (eqN r s)) [] := by
  refine in_rNd (W := w_rNd) rfl 0 (by simp) rfl (fun id h => absurd rfl h) ?_
  refine of_eq (rNd_A r s 0 _) ?_
  simp only [toAc_A, toEn_A, toPc_A]
  refine ⟨fun h1 => ⟨fun h2 => ⟨fun h3 => ⟨fun h4 => ⟨fun h5 => ⟨?_, trivial, fun h6 => ⟨?_, trivial, fun h7 => ⟨?_, trivial, post_tmp rfl (sm_sb ?_)⟩, fun h7 => post_tmp rfl (sm_b ?_)⟩, fun h6 => post_tmp rfl (sm_b ?_)⟩, fun h5 => post_tmp rfl (sm_b ?_)⟩, fun h4 => post_tmp rfl (sm_b ?_)⟩, fun h3 => post_tmp rfl (sm_b ?_)⟩, fun h2 => post_tmp rfl (sm_b ?_)⟩, fun h1 => post_tmp rfl (sm_b ?_)⟩
  · exact rAc_fun _ _ _ _ hr.1
  · exact rLs_fun _ _ _ _ hr.2.1
  · exact rBd_fun _ _ _ _ hr.2.2
  all_goals simp_all [eqN, qc, qd, qe, qf, beq_dec]
theorem rsameR_fun (r s : Rp) (hr : RpOK r) : Fun C P F_rsameR [rpA r, rpA s] [] (.sb (eqR r s)) [] := by
  refine in_rsameR (W := w_rsameR) rfl 0 (by simp) rfl (fun id h => absurd rfl h) ?_
  refine of_eq (rsameR_A r s 0 _) ?_
  simp only [toS_A, toPc_A, toNd_A]
  refine ⟨fun h1 => ⟨fun h2 => ⟨?_, trivial, fun h3 => ⟨?_, trivial, fun h4 => ⟨?_, trivial, post_tmp rfl (sm_sb ?_)⟩, fun h4 => post_tmp rfl (sm_b ?_)⟩, fun h3 => post_tmp rfl (sm_b ?_)⟩, fun h2 => post_tmp rfl (sm_b ?_)⟩, fun h1 => post_tmp rfl (sm_b ?_)⟩
  · exact rNm_fun _ _ _ _ hr.1
  · exact rBd_fun _ _ _ _ hr.2.1
  · exact rNd_fun _ _ hr.2.2
  all_goals simp_all [eqR, qa, qb, beq_dec]
end Go.Bu.W

namespace Go.Bu.W
abbrev rowS (l : List Ses) : Nat → AV := fun j => seA (seAt l j)
def mkS (xs : List Value) : AV := .st [.v (xs.getD 0 undef), .v (xs.getD 1 undef), .st [.v (xs.getD 2 undef), .v (xs.getD 3 undef), .v (xs.getD 4 undef), .v (xs.getD 5 undef), .st [.v (xs.getD 6 undef), .v (xs.getD 7 undef), .v (xs.getD 8 undef), .v (xs.getD 9 undef), .v (xs.getD 10 undef), .v (xs.getD 11 undef), .v (xs.getD 12 undef), .v (xs.getD 13 undef)]]]
def crClone : List AV → Option (AV × List (Nat × Blk))
  | [.dat n _ _ f] => some (.sl 0 [] 0 n n false 14, [(0, .c (.arr n 14 f))])
  | _ => none
def crOvl : List AV → List (Nat × Blk) → Option (AV × List (Nat × Blk))
  | [.sl _ _ _ _ _ _ _, .sl _ _ _ _ _ _ _], H => some (.v (.bool false), H)
  | _, _ => none
def crIns : List AV → List (Nat × Blk) → Option (AV × List (Nat × Blk))
  | [.sl _ _ _ n _ _ e, i, .sl _ _ _ _ _ _ _], [(_, .c (.arr _ _ f)), (_, .c v)] => some (.sl 2 [] 0 (n + 1) (n + 1) false e, [(2, .c (.arr (n + 1) e (insF (asI i).toNat (firstOf v) f)))])
  | _, _ => none
def crGrow : List AV → Option (AV × List (Nat × Blk))
  | [_, n] => some (.sl 0 [] 0 0 (asI n).toNat false 14, [(0, .c (.arr (asI n).toNat 14 (fun _ => seZ)))])
  | _ => none
def lens (n : Nat) (f : Nat → AV) : List Ses := ((List.range n).map fun i => toLS (f i)).flatten
def crConc : List AV → Option (AV × List (Nat × Blk))
  | [.dat n _ _ f] => some (.sl 0 [] 0 (lens n f).length (lens n f).length false 14, [(0, .c (.arr (lens n f).length 14 (rowS (lens n f))))])
  | _ => none
def crN4 (g : Nat) (args : List AV) (H : List (Nat × Blk)) : Option (AV × List (Nat × Blk)) :=
  sel (Nat.beq g F_cloneS) (crClone args) <| sel (Nat.beq g F_insS) (crIns args H) <| sel (Nat.beq g 54) (crOvl args H) <| sel (Nat.beq g F_growS) (crGrow args) <| sel (Nat.beq g F_concS) (crConc args) <| crN3 g args H
def byrefI (g : Nat) : Bool := Nat.beq g F_insS || Nat.beq g 54
def wayM (keep : List Nat) (nt : Nat) (cuts : List Nat) : Way := ⟨crN4, byrefI, keep, [33], nt, cuts⟩
def wayI (keep : List Nat) (nt : Nat) (cuts : List Nat) : Way := ⟨crN4, byrefI, keep, [40], nt, cuts⟩
def w_cloneS : Way := wayM [0, 2, 4] 8 []
def w_growS : Way := wayM [0, 1, 4, 6, 16] 27 []
def w_concS : Way := wayM [0, 2, 3, 5, 6, 8, 9, 10, 11, 12, 20, 25, 26, 27, 28] 36 []
def w_insS : Way := wayI [0, 1, 2, 6, 7, 8, 9, 16, 22, 31, 68] 95 []
abbrev lAt (ls : List (List Ses)) (i : Nat) : List Ses := ls.getD i []
abbrev dL (ex : Bool) (exs : Nat → Bool) (ls : List (List Ses)) : AV := .dat ls.length ex 1 (fun i => dSe (exs i) (lAt ls i))
def rowZ (l : List Ses) (j : Nat) : AV := if j < l.length then seA (seAt l j) else seZ
def I_cc0 (ex : Bool) (exs : Nat → Bool) (ps : List (List Ses)) (i : Nat) : St := { tm := [(0, dL ex exs ps), (3, i64 (ps.take i).flatten.length), (9, dL ex exs ps), (10, i64 ps.length), (11, i64 i)], hp := [], seen := [] }
def I_cc1 (ex : Bool) (exs : Nat → Bool) (ps : List (List Ses)) (i : Nat) : St := { tm := [(6, .sl 6 [] 0 (ps.take i).flatten.length ps.flatten.length false 14), (25, dL ex exs ps), (26, i64 ps.length), (27, i64 i)], hp := [(6, .c (.arr ps.flatten.length 14 (rowZ (ps.take i).flatten)))], seen := [6] }

theorem cloneS_A (ex : Bool) (l : List Ses) (K : Nat) (Φ : Ex → St → Prop) :
  (Holds C P 8 [] K Φ (vc C w_cloneS b_cloneS [] (start [dSe ex l] []) lf)) =
  ((0 < (List.length l)) ∧
 ((0 = 0) ∧
 (((0 = 0) ∨ (0 < (List.length l))) ∧
 ((((0 + (List.length l)) * 192) ≤ 140737488355328) ∧
 (Φ Ex.ret (St.mk [(0, (W.dSe ex l)), (2, (AV.sl 7 [] 0 (0 + (List.length l)) (0 + (List.length l)) false 14)), (4, (AV.v (Value.bool false)))] [(5, (Blk.c (AV.st []))), (7, (Blk.c (AV.arr (0 + (List.length l)) 14 (cat 0 (fun (_i : Nat) => (AV.v (Value.tuple (List.toArray [])))) (fun (i : Nat) => (W.seA (W.seAt l i)))))))] [7, 5])))))) := by kernel_rfl
theorem cloneS_AN (c : Nat) (K : Nat) (Φ : Ex → St → Prop) :
  (Holds C P 8 [] K Φ (vc C w_cloneS b_cloneS [] (start [.v (.slice none 0 c)] []) lf)) =
  (Φ Ex.ret (St.mk [(0, (AV.v (Value.slice Option.none 0 c))), (2, (W.zD)), (4, (AV.v (Value.bool true)))] [] [])) := by kernel_rfl
theorem cloneS_AS (a : Addr) (c : Nat) (K : Nat) (Φ : Ex → St → Prop) :
  (Holds C P 8 [] K Φ (vc C w_cloneS b_cloneS [] (start [.v (.slice (some a) 0 c)] []) lf)) =
  ((0 = 0) ∧
 (((0 = 0) ∨ (0 < 0)) ∧
 ((0 ≤ 140737488355328) ∧
 (Φ Ex.ret (St.mk [(0, (AV.v (Value.slice (Option.some a) 0 c))), (2, (AV.sl 7 [] 0 0 0 false 14)), (4, (AV.v (Value.bool (Option.isNone (Option.some a)))))] [(5, (Blk.c (AV.st []))), (7, (Blk.c (AV.arr 0 14 (cat 0 (fun (_i : Nat) => (AV.v (Value.tuple (List.toArray [])))) (fun (_x : Nat) => (AV.v (Value.tuple (List.toArray []))))))))] [7, 5]))))) := by kernel_rfl
theorem growS_A (n : Nat) (K : Nat) (Φ : Ex → St → Prop) :
  (Holds C P 27 [] K Φ (vc C w_growS b_growS [] (start [zD, i64 n] []) lf)) =
  (((decide (((n : Nat) : Int) < (0 : Int))) = true →
 (Holds W.C W.P 27 [] K Φ (VC.fail 5))) ∧
 ((decide (((n : Nat) : Int) < (0 : Int))) = false →
 ((I64 (0 : Int)) ∧
  ((I64 (((n : Nat) : Int) - (0 : Int))) ∧
  (((decide ((((n : Nat) : Int) - (0 : Int)) > (0 : Int))) = true →
  (((0 = 0) ∧ ((true = true) ∧ (((0 : Int) ≤ (0 : Int)) ∧ (((0 : Int) ≤ (0 : Int)) ∧ ((0 : Int) ≤ (0 : Int)))))) ∧
   ((((0 : Int) ≤ (((n : Nat) : Int) - (0 : Int))) ∧ (((Int.toNat (((n : Nat) : Int) - (0 : Int))) * 192) ≤ 140737488355328)) ∧
   ((((Int.toNat (((n : Nat) : Int) - (0 : Int))) * 192) ≤ 140737488355328) ∧
   ((((0 : Int) ≤ (0 : Int)) ∧ (((0 : Int) ≤ (0 : Int)) ∧ ((0 : Int) ≤ (((Int.toNat (((n : Nat) : Int) - (0 : Int))) : Nat) : Int)))) ∧
   (Φ Ex.ret (St.mk [(0, (AV.sl 22 [] 0 0 (Int.toNat (((n : Nat) : Int) - (0 : Int))) false 14)), (1, (AV.i (((n : Nat) : Int) - (0 : Int)))), (4, (AV.sl 22 [] 0 0 (Int.toNat (((n : Nat) : Int) - (0 : Int))) false 14)), (6, (AV.v (Value.bool false))), (16, (AV.v (Value.bool true)))] [(22, (Blk.c (AV.arr (Int.toNat (((n : Nat) : Int) - (0 : Int))) 14 (fun (_x : Nat) => (W.seZ)))))] [22]))))))) ∧
  ((decide ((((n : Nat) : Int) - (0 : Int)) > (0 : Int))) = false →
  (Φ Ex.ret (St.mk [(0, (W.zD)), (1, (AV.i (((n : Nat) : Int) - (0 : Int)))), (4, (W.zD)), (6, (AV.v (Value.bool false))), (16, (AV.v (Value.bool false)))] [] [])))))))) := by kernel_rfl
theorem concS_A (ex : Bool) (exs : Nat → Bool) (ps : List (List Ses)) (K : Nat) (Φ : Ex → St → Prop) :
  (Holds C P 36 [] K Φ (vc C w_concS b_concS [] (start [dL ex exs ps] []) lf)) =
  (LoopOK W.C W.P 36 [] K (bodyAt b_concS [1, 1, 0, 1, 0]) (St.mk [(0, (AV.dat (List.length ps) ex 1 (fun (i : Nat) => (W.dSe (exs i) (W.lAt ps i))))), (2, (W.zD)), (3, (AV.i (0 : Int))), (9, (AV.dat (List.length ps) ex 1 (fun (i : Nat) => (W.dSe (exs i) (W.lAt ps i))))), (10, (AV.i (((List.length ps) : Nat) : Int))), (11, (AV.i (0 : Int)))] [] []) (fun (e : Ex) (S' : St) => Holds W.C W.P 36 [] K Φ (after W.C w_concS b_concS [1, 1, 0, 1, 0] [] lf e S'))) := by kernel_rfl
noncomputable abbrev bd_concS_0 : Code := bodyAt (b_concS) [1, 1, 0, 1, 0]
theorem ok_concS_0 : codeOK bd_concS_0 = true := by kernel_rfl
noncomputable abbrev rest_concS_0 (K : Nat) (Φ : Ex → St → Prop) : Ex → St → Prop := fun e S' => Holds C P 36 [] K Φ (after C w_concS (b_concS) [1, 1, 0, 1, 0] [] lf e S')
theorem concS_L0 (ex : Bool) (exs : Nat → Bool) (ps : List (List Ses)) (i : Nat) (K : Nat) (Φ : Ex → St → Prop) :
  (Holds C P 36 [] K (RoundQ C 36 [] K (I_cc0 ex exs ps) (fun i => i ≤ ps.length) (fun i => ps.length - i) ((fun i => ps.length - i) (i)) (rest_concS_0 K Φ)) (vc C w_concS bd_concS_0 [] ((I_cc0 ex exs ps) (i)) lf)) =
  (((decide (((i : Nat) : Int) < (((List.length ps) : Nat) : Int))) = true →
 ((((0 : Int) ≤ ((i : Nat) : Int)) ∧ (((i : Nat) : Int) < (((List.length ps) : Nat) : Int))) ∧
  ((I64 ((((List.length (List.flatten (List.take i ps))) + (List.length (W.lAt ps i))) : Nat) : Int)) ∧
  (((decide (((((List.length (List.flatten (List.take i ps))) + (List.length (W.lAt ps i))) : Nat) : Int) < (0 : Int))) = true →
  (Holds W.C W.P 36 [] K (RoundQ W.C 36 [] K (W.I_cc0 ex exs ps) (fun (i1 : Nat) => (i1 ≤ (List.length ps))) (fun (i1 : Nat) => ((List.length ps) - i1)) ((List.length ps) - i) (W.rest_concS_0 K Φ)) (VC.fail 5))) ∧
  ((decide (((((List.length (List.flatten (List.take i ps))) + (List.length (W.lAt ps i))) : Nat) : Int) < (0 : Int))) = false →
  ((I64 (((i + 1) : Nat) : Int)) ∧
   ((RoundQ C 36 [] K (I_cc0 ex exs ps) (fun i => i ≤ ps.length) (fun i => ps.length - i) ((fun i => ps.length - i) (i)) (rest_concS_0 K Φ)) Ex.normal (St.mk [(0, (AV.dat (List.length ps) ex 1 (fun (i1 : Nat) => (W.dSe (exs i1) (W.lAt ps i1))))), (3, (AV.i ((((List.length (List.flatten (List.take i ps))) + (List.length (W.lAt ps i))) : Nat) : Int))), (5, (W.dSe (exs i) (W.lAt ps i))), (9, (AV.dat (List.length ps) ex 1 (fun (i1 : Nat) => (W.dSe (exs i1) (W.lAt ps i1))))), (10, (AV.i (((List.length ps) : Nat) : Int))), (11, (AV.i (((i + 1) : Nat) : Int))), (12, (AV.v (Value.bool true))), (20, (AV.v (Value.bool false)))] [] [])))))))) ∧
 ((decide (((i : Nat) : Int) < (((List.length ps) : Nat) : Int))) = false →
 (Fun W.C W.P 58 [(W.zD), (AV.i (((List.length (List.flatten (List.take i ps))) : Nat) : Int))] [] (AV.sl 0 [] 0 0 (Int.toNat (((List.length (List.flatten (List.take i ps))) : Nat) : Int)) false 14) [(0, (Blk.c (AV.arr (Int.toNat (((List.length (List.flatten (List.take i ps))) : Nat) : Int)) 14 (fun (_x : Nat) => (W.seZ)))))] ∧
  (LoopOK W.C W.P 36 [] K (bodyAt b_concS [1, 1, 1, 1, 0, 1, 0]) (St.mk [(0, (AV.dat (List.length ps) ex 1 (fun (i1 : Nat) => (W.dSe (exs i1) (W.lAt ps i1))))), (3, (AV.i (((List.length (List.flatten (List.take i ps))) : Nat) : Int))), (6, (AV.sl 24 [] 0 0 (Int.toNat (((List.length (List.flatten (List.take i ps))) : Nat) : Int)) false 14)), (9, (AV.dat (List.length ps) ex 1 (fun (i1 : Nat) => (W.dSe (exs i1) (W.lAt ps i1))))), (10, (AV.i (((List.length ps) : Nat) : Int))), (11, (AV.i ((i : Nat) : Int))), (12, (AV.v (Value.bool false))), (25, (AV.dat (List.length ps) ex 1 (fun (i1 : Nat) => (W.dSe (exs i1) (W.lAt ps i1))))), (26, (AV.i (((List.length ps) : Nat) : Int))), (27, (AV.i (0 : Int)))] [(24, (Blk.c (AV.arr (Int.toNat (((List.length (List.flatten (List.take i ps))) : Nat) : Int)) 14 (fun (_x : Nat) => (W.seZ)))))] [24]) (fun (e : Ex) (S' : St) => Holds W.C W.P 36 [] K Φ (after W.C w_concS b_concS [1, 1, 1, 1, 0, 1, 0] [] lf e S')))))) := by kernel_rfl
noncomputable abbrev bd_concS_1 : Code := bodyAt (b_concS) [1, 1, 1, 1, 0, 1, 0]
theorem ok_concS_1 : codeOK bd_concS_1 = true := by kernel_rfl
noncomputable abbrev rest_concS_1 (K : Nat) (Φ : Ex → St → Prop) : Ex → St → Prop := fun e S' => Holds C P 36 [] K Φ (after C w_concS (b_concS) [1, 1, 1, 1, 0, 1, 0] [] lf e S')
theorem concS_L1 (ex : Bool) (exs : Nat → Bool) (ps : List (List Ses)) (i : Nat) (K : Nat) (Φ : Ex → St → Prop) :
  (Holds C P 36 [] K (RoundQ C 36 [] K (I_cc1 ex exs ps) (fun i => i ≤ ps.length) (fun i => ps.length - i) ((fun i => ps.length - i) (i)) (rest_concS_1 K Φ)) (vc C w_concS bd_concS_1 [] ((I_cc1 ex exs ps) (i)) lf)) =
  (((decide (((i : Nat) : Int) < (((List.length ps) : Nat) : Int))) = true →
 ((((0 : Int) ≤ ((i : Nat) : Int)) ∧ (((i : Nat) : Int) < (((List.length ps) : Nat) : Int))) ∧
  ((((List.length (List.flatten (List.take i ps))) + (List.length (W.lAt ps i))) ≤ (List.length (List.flatten ps))) ∧
  ((∀ (i1 : Nat), ((i1 < (List.length (W.lAt ps i))) → (shp (W.rowZ (List.flatten (List.take i ps)) ((0 + (List.length (List.flatten (List.take i ps)))) + i1)) (W.seA (W.seAt (W.lAt ps i) i1))))) ∧
  ((I64 (((i + 1) : Nat) : Int)) ∧
  ((RoundQ C 36 [] K (I_cc1 ex exs ps) (fun i => i ≤ ps.length) (fun i => ps.length - i) ((fun i => ps.length - i) (i)) (rest_concS_1 K Φ)) Ex.normal (St.mk [(6, (AV.sl 6 [] 0 ((List.length (List.flatten (List.take i ps))) + (List.length (W.lAt ps i))) (List.length (List.flatten ps)) false 14)), (8, (W.dSe (exs i) (W.lAt ps i))), (25, (AV.dat (List.length ps) ex 1 (fun (i1 : Nat) => (W.dSe (exs i1) (W.lAt ps i1))))), (26, (AV.i (((List.length ps) : Nat) : Int))), (27, (AV.i (((i + 1) : Nat) : Int))), (28, (AV.v (Value.bool true)))] [(6, (Blk.c (AV.arr (List.length (List.flatten ps)) 14 (lay (0 + (List.length (List.flatten (List.take i ps)))) (List.length (W.lAt ps i)) (W.rowZ (List.flatten (List.take i ps))) (fun (i1 : Nat) => (W.seA (W.seAt (W.lAt ps i) i1)))))))] [6]))))))) ∧
 ((decide (((i : Nat) : Int) < (((List.length ps) : Nat) : Int))) = false →
 (Φ Ex.ret (St.mk [(2, (AV.sl 6 [] 0 (List.length (List.flatten (List.take i ps))) (List.length (List.flatten ps)) false 14)), (6, (AV.sl 6 [] 0 (List.length (List.flatten (List.take i ps))) (List.length (List.flatten ps)) false 14)), (25, (AV.dat (List.length ps) ex 1 (fun (i1 : Nat) => (W.dSe (exs i1) (W.lAt ps i1))))), (26, (AV.i (((List.length ps) : Nat) : Int))), (27, (AV.i ((i : Nat) : Int))), (28, (AV.v (Value.bool false)))] [(6, (Blk.c (AV.arr (List.length (List.flatten ps)) 14 (W.rowZ (List.flatten (List.take i ps))))))] [6])))) := by kernel_rfl
theorem insS_AE (l : List Ses) (x : Int) (K : Nat) (Φ : Ex → St → Prop) :
  (Holds C P 95 [] K Φ (vc C w_insS b_insS [] (start [.sl 0 [] 0 l.length l.length false 14, i64 l.length, .sl 1 [] 0 1 1 true 14] [(0, .c (.arr l.length 14 (rowS l))), (1, .c (.arr 1 14 (fun _ => seN x)))]) lf)) =
  ((((0 : Int) ≤ (((List.length l) : Nat) : Int)) ∧ (((((List.length l) : Nat) : Int) ≤ (((List.length l) : Nat) : Int)) ∧ ((((List.length l) : Nat) : Int) ≤ (((List.length l) : Nat) : Int)))) ∧
 ((false = true →
 (Φ Ex.ret (St.mk [(0, (AV.sl 0 [] 0 (List.length l) (List.length l) false 14)), (1, (AV.i (((List.length l) : Nat) : Int))), (2, (AV.sl 1 [] 0 1 1 true 14)), (6, (AV.sl 0 [] 0 (List.length l) (List.length l) false 14)), (7, (AV.i (1 : Int))), (16, (AV.v (Value.bool true)))] [(0, (Blk.c (AV.arr (List.length l) 14 (W.rowS l)))), (1, (Blk.c (AV.arr 1 14 (fun (_x1 : Nat) => (W.seN x)))))] [0, 1]))) ∧
 (false = false →
 ((((((List.length l) : Nat) : Int) == (((List.length l) : Nat) : Int)) = true →
  (((((List.length l) + 1) * 192) ≤ 140737488355328) ∧
   (Φ Ex.ret (St.mk [(0, (AV.sl 0 [] 0 (List.length l) (List.length l) false 14)), (1, (AV.i (((List.length l) : Nat) : Int))), (2, (AV.sl 1 [] 0 1 1 true 14)), (6, (AV.sl 25 [] 0 ((List.length l) + 1) ((List.length l) + 1) false 14)), (7, (AV.i (1 : Int))), (8, (AV.i (((List.length l) : Nat) : Int))), (16, (AV.v (Value.bool false))), (22, (AV.v (Value.bool true)))] [(1, (Blk.c (AV.arr 1 14 (fun (_x1 : Nat) => (W.seN x))))), (25, (Blk.c (AV.arr ((List.length l) + 1) 14 (cat (List.length l) (fun (i : Nat) => (W.seA (W.seAt l (0 + i)))) (fun (_i : Nat) => (W.seN x))))))] [25, 0, 1])))) ∧
  (((((List.length l) : Nat) : Int) == (((List.length l) : Nat) : Int)) = false →
  ((I64 ((((List.length l) + 1) : Nat) : Int)) ∧
   (Holds W.C W.P 95 [] K Φ (VC.fail 4)))))))) := by kernel_rfl
theorem insS_AX (l : List Ses) (x : Int) (rc i : Nat) (sp : Nat → List Value) (K : Nat) (Φ : Ex → St → Prop) :
  (Holds C P 95 [] K Φ (vc C w_insS b_insS [] (start [.sl 0 [] 0 l.length rc true 14, i64 i, .sl 1 [] 0 1 1 true 14] [(0, .c (.arr rc 14 (fun j => if j < l.length then rowS l j else mkS (sp j)))), (1, .c (.arr 1 14 (fun _ => seN x)))]) lf)) =
  ((((0 : Int) ≤ ((i : Nat) : Int)) ∧ ((((i : Nat) : Int) ≤ (((List.length l) : Nat) : Int)) ∧ ((((List.length l) : Nat) : Int) ≤ ((rc : Nat) : Int)))) ∧
 ((false = true →
 (Φ Ex.ret (St.mk [(0, (AV.sl 0 [] 0 (List.length l) rc true 14)), (1, (AV.i ((i : Nat) : Int))), (2, (AV.sl 1 [] 0 1 1 true 14)), (6, (AV.sl 0 [] 0 (List.length l) rc true 14)), (7, (AV.i (1 : Int))), (16, (AV.v (Value.bool true)))] [(0, (Blk.c (AV.arr rc 14 (fun (j : Nat) => (if (j < (List.length l)) then (W.seA (W.seAt l j)) else (W.mkS (sp j))))))), (1, (Blk.c (AV.arr 1 14 (fun (_x1 : Nat) => (W.seN x)))))] [0, 1]))) ∧
 (false = false →
 (((((i : Nat) : Int) == (((List.length l) : Nat) : Int)) = true →
  ((rc = (List.length l)) ∧
   ((((List.length l) = 0) ∨ (0 < 1)) ∧
   (((((List.length l) + 1) * 192) ≤ 140737488355328) ∧
   (Φ Ex.ret (St.mk [(0, (AV.sl 0 [] 0 (List.length l) rc true 14)), (1, (AV.i ((i : Nat) : Int))), (2, (AV.sl 1 [] 0 1 1 true 14)), (6, (AV.sl 25 [] 0 ((List.length l) + 1) ((List.length l) + 1) false 14)), (7, (AV.i (1 : Int))), (8, (AV.i (((List.length l) : Nat) : Int))), (16, (AV.v (Value.bool false))), (22, (AV.v (Value.bool true)))] [(0, (Blk.c (AV.arr rc 14 (fun (j : Nat) => (if (j < (List.length l)) then (W.seA (W.seAt l j)) else (W.mkS (sp j))))))), (1, (Blk.c (AV.arr 1 14 (fun (_x1 : Nat) => (W.seN x))))), (25, (Blk.c (AV.arr ((List.length l) + 1) 14 (cat (List.length l) (fun (i1 : Nat) => (if ((0 + i1) < (List.length l)) then (W.seA (W.seAt l (0 + i1))) else (W.mkS (sp (0 + i1))))) (fun (_i1 : Nat) => (W.seN x))))))] [25, 0, 1])))))) ∧
  ((((i : Nat) : Int) == (((List.length l) : Nat) : Int)) = false →
  ((I64 ((((List.length l) + 1) : Nat) : Int)) ∧
   (((decide (((((List.length l) + 1) : Nat) : Int) > ((rc : Nat) : Int))) = true →
   ((((0 : Int) ≤ (0 : Int)) ∧ (((0 : Int) ≤ ((i : Nat) : Int)) ∧ (((i : Nat) : Int) ≤ ((rc : Nat) : Int)))) ∧
    ((I64 ((((List.length l) + 1) : Nat) : Int)) ∧
    ((I64 (((((List.length l) + 1) : Nat) : Int) - ((i : Nat) : Int))) ∧
    ((((0 : Int) ≤ (((((List.length l) + 1) : Nat) : Int) - ((i : Nat) : Int))) ∧ (((Int.toNat (((((List.length l) + 1) : Nat) : Int) - ((i : Nat) : Int))) * 192) ≤ 140737488355328)) ∧
    ((rc < (i + (Int.toNat (((((List.length l) + 1) : Nat) : Int) - ((i : Nat) : Int))))) ∧
    ((((i + (Int.toNat (((((List.length l) + 1) : Nat) : Int) - ((i : Nat) : Int)))) * 192) ≤ 140737488355328) ∧
    ((((0 : Int) ≤ ((i : Nat) : Int)) ∧ ((((i : Nat) : Int) ≤ (((i + (Int.toNat (((((List.length l) + 1) : Nat) : Int) - ((i : Nat) : Int)))) : Nat) : Int)) ∧ ((((i + (Int.toNat (((((List.length l) + 1) : Nat) : Int) - ((i : Nat) : Int)))) : Nat) : Int) ≤ (((i + (Int.toNat (((((List.length l) + 1) : Nat) : Int) - ((i : Nat) : Int)))) : Nat) : Int)))) ∧
    ((∀ (i1 : Nat), ((i1 < (Min.min 1 ((i + (Int.toNat (((((List.length l) + 1) : Nat) : Int) - ((i : Nat) : Int)))) - i))) → (shp (cat i (fun (i2 : Nat) => (if ((0 + i2) < (List.length l)) then (W.seA (W.seAt l (0 + i2))) else (W.mkS (sp (0 + i2))))) (fun (_x1 : Nat) => (W.seZ)) ((0 + i) + i1)) (W.seN x)))) ∧
    ((I64 (((i + 1) : Nat) : Int)) ∧
    ((((0 : Int) ≤ (((i + 1) : Nat) : Int)) ∧ (((((i + 1) : Nat) : Int) ≤ (((i + (Int.toNat (((((List.length l) + 1) : Nat) : Int) - ((i : Nat) : Int)))) : Nat) : Int)) ∧ ((((i + (Int.toNat (((((List.length l) + 1) : Nat) : Int) - ((i : Nat) : Int)))) : Nat) : Int) ≤ (((i + (Int.toNat (((((List.length l) + 1) : Nat) : Int) - ((i : Nat) : Int)))) : Nat) : Int)))) ∧
    ((((0 : Int) ≤ ((i : Nat) : Int)) ∧ ((((i : Nat) : Int) ≤ (((List.length l) : Nat) : Int)) ∧ ((((List.length l) : Nat) : Int) ≤ ((rc : Nat) : Int)))) ∧
    ((∀ (i1 : Nat), ((i1 < (Min.min ((List.length l) - i) ((i + (Int.toNat (((((List.length l) + 1) : Nat) : Int) - ((i : Nat) : Int)))) - (i + 1)))) → (shp (lay (0 + i) (Min.min 1 ((i + (Int.toNat (((((List.length l) + 1) : Nat) : Int) - ((i : Nat) : Int)))) - i)) (cat i (fun (i2 : Nat) => (if ((0 + i2) < (List.length l)) then (W.seA (W.seAt l (0 + i2))) else (W.mkS (sp (0 + i2))))) (fun (_x1 : Nat) => (W.seZ))) (fun (_i2 : Nat) => (W.seN x)) ((0 + (i + 1)) + i1)) (if (((0 + i) + i1) < (List.length l)) then (W.seA (W.seAt l ((0 + i) + i1))) else (W.mkS (sp ((0 + i) + i1))))))) ∧
    (Φ Ex.ret (St.mk [(0, (AV.sl 0 [] 0 (List.length l) rc true 14)), (1, (AV.i ((i : Nat) : Int))), (2, (AV.sl 1 [] 0 1 1 true 14)), (6, (AV.sl 40 [] 0 (i + (Int.toNat (((((List.length l) + 1) : Nat) : Int) - ((i : Nat) : Int)))) (i + (Int.toNat (((((List.length l) + 1) : Nat) : Int) - ((i : Nat) : Int)))) false 14)), (7, (AV.i (1 : Int))), (8, (AV.i (((List.length l) : Nat) : Int))), (9, (AV.sl 40 [] 0 (i + (Int.toNat (((((List.length l) + 1) : Nat) : Int) - ((i : Nat) : Int)))) (i + (Int.toNat (((((List.length l) + 1) : Nat) : Int) - ((i : Nat) : Int)))) false 14)), (16, (AV.v (Value.bool false))), (22, (AV.v (Value.bool false))), (31, (AV.v (Value.bool true)))] [(0, (Blk.c (AV.arr rc 14 (fun (j : Nat) => (if (j < (List.length l)) then (W.seA (W.seAt l j)) else (W.mkS (sp j))))))), (1, (Blk.c (AV.arr 1 14 (fun (_x1 : Nat) => (W.seN x))))), (40, (Blk.c (AV.arr (i + (Int.toNat (((((List.length l) + 1) : Nat) : Int) - ((i : Nat) : Int)))) 14 (lay (0 + (i + 1)) (Min.min ((List.length l) - i) ((i + (Int.toNat (((((List.length l) + 1) : Nat) : Int) - ((i : Nat) : Int)))) - (i + 1))) (lay (0 + i) (Min.min 1 ((i + (Int.toNat (((((List.length l) + 1) : Nat) : Int) - ((i : Nat) : Int)))) - i)) (cat i (fun (i1 : Nat) => (if ((0 + i1) < (List.length l)) then (W.seA (W.seAt l (0 + i1))) else (W.mkS (sp (0 + i1))))) (fun (_x1 : Nat) => (W.seZ))) (fun (_i1 : Nat) => (W.seN x))) (fun (i1 : Nat) => (if (((0 + i) + i1) < (List.length l)) then (W.seA (W.seAt l ((0 + i) + i1))) else (W.mkS (sp ((0 + i) + i1)))))))))] [40, 0, 1]))))))))))))))) ∧
   ((decide (((((List.length l) + 1) : Nat) : Int) > ((rc : Nat) : Int))) = false →
   ((I64 ((((List.length l) + 1) : Nat) : Int)) ∧
    ((((0 : Int) ≤ (0 : Int)) ∧ (((0 : Int) ≤ ((((List.length l) + 1) : Nat) : Int)) ∧ (((((List.length l) + 1) : Nat) : Int) ≤ ((rc : Nat) : Int)))) ∧
    ((I64 (((i + 1) : Nat) : Int)) ∧
    ((((0 : Int) ≤ (((i + 1) : Nat) : Int)) ∧ (((((i + 1) : Nat) : Int) ≤ ((((List.length l) + 1) : Nat) : Int)) ∧ (((((List.length l) + 1) : Nat) : Int) ≤ ((rc : Nat) : Int)))) ∧
    (Fun W.C W.P 54 [(AV.sl 0 [] 0 1 1 true 14), (AV.sl 1 [] (0 + (i + 1)) (((List.length l) + 1) - (i + 1)) (rc - (i + 1)) true 14)] [(0, (Blk.c (AV.arr 1 14 (fun (_x1 : Nat) => (W.seN x))))), (1, (Blk.c (AV.arr rc 14 (fun (j : Nat) => (if (j < (List.length l)) then (W.seA (W.seAt l j)) else (W.mkS (sp j)))))))] (AV.v (Value.bool false)) [(0, (Blk.c (AV.arr 1 14 (fun (_x1 : Nat) => (W.seN x))))), (1, (Blk.c (AV.arr rc 14 (fun (j : Nat) => (if (j < (List.length l)) then (W.seA (W.seAt l j)) else (W.mkS (sp j)))))))] ∧
    ((I64 (((i + 1) : Nat) : Int)) ∧
    ((((0 : Int) ≤ (((i + 1) : Nat) : Int)) ∧ (((((i + 1) : Nat) : Int) ≤ ((((List.length l) + 1) : Nat) : Int)) ∧ (((((List.length l) + 1) : Nat) : Int) ≤ ((rc : Nat) : Int)))) ∧
    ((((0 : Int) ≤ ((i : Nat) : Int)) ∧ ((((i : Nat) : Int) ≤ ((((List.length l) + 1) : Nat) : Int)) ∧ (((((List.length l) + 1) : Nat) : Int) ≤ ((rc : Nat) : Int)))) ∧
    ((∀ (i1 : Nat), ((i1 < (Min.min (((List.length l) + 1) - i) (((List.length l) + 1) - (i + 1)))) → (shp (if (((0 + (i + 1)) + i1) < (List.length l)) then (W.seA (W.seAt l ((0 + (i + 1)) + i1))) else (W.mkS (sp ((0 + (i + 1)) + i1)))) (if (((0 + i) + i1) < (List.length l)) then (W.seA (W.seAt l ((0 + i) + i1))) else (W.mkS (sp ((0 + i) + i1))))))) ∧
    ((((0 : Int) ≤ ((i : Nat) : Int)) ∧ ((((i : Nat) : Int) ≤ ((((List.length l) + 1) : Nat) : Int)) ∧ (((((List.length l) + 1) : Nat) : Int) ≤ ((rc : Nat) : Int)))) ∧
    ((∀ (i1 : Nat), ((i1 < (Min.min 1 (((List.length l) + 1) - i))) → (shp (lay (0 + (i + 1)) (Min.min (((List.length l) + 1) - i) (((List.length l) + 1) - (i + 1))) (fun (j : Nat) => (if (j < (List.length l)) then (W.seA (W.seAt l j)) else (W.mkS (sp j)))) (fun (i2 : Nat) => (if (((0 + i) + i2) < (List.length l)) then (W.seA (W.seAt l ((0 + i) + i2))) else (W.mkS (sp ((0 + i) + i2))))) ((0 + i) + i1)) (W.seN x)))) ∧
    (Φ Ex.ret (St.mk [(0, (AV.sl 0 [] 0 ((List.length l) + 1) rc true 14)), (1, (AV.i ((i : Nat) : Int))), (2, (AV.sl 1 [] 0 1 1 true 14)), (6, (AV.sl 0 [] 0 ((List.length l) + 1) rc true 14)), (7, (AV.i (1 : Int))), (8, (AV.i (((List.length l) : Nat) : Int))), (16, (AV.v (Value.bool false))), (22, (AV.v (Value.bool false))), (31, (AV.v (Value.bool false))), (68, (AV.v (Value.bool true)))] [(0, (Blk.c (AV.arr rc 14 (lay (0 + i) (Min.min 1 (((List.length l) + 1) - i)) (lay (0 + (i + 1)) (Min.min (((List.length l) + 1) - i) (((List.length l) + 1) - (i + 1))) (fun (j : Nat) => (if (j < (List.length l)) then (W.seA (W.seAt l j)) else (W.mkS (sp j)))) (fun (i1 : Nat) => (if (((0 + i) + i1) < (List.length l)) then (W.seA (W.seAt l ((0 + i) + i1))) else (W.mkS (sp ((0 + i) + i1)))))) (fun (_i1 : Nat) => (W.seN x)))))), (1, (Blk.c (AV.arr 1 14 (fun (_x1 : Nat) => (W.seN x)))))] [0, 1]))))))))))))))))))))) := by kernel_rfl

theorem shpSS (a b : Ses) : shp (seA a) (seA b) := by simp [shp, shp.shps, leaf]
theorem shpZS (w : Int) (b : Ses) : shp (seN w) (seA b) := by simp [shp, shp.shps, leaf]
theorem shpSZ (w : Int) (b : Ses) : shp (seA b) (seN w) := by simp [shp, shp.shps, leaf]
theorem shpZZ (w v : Int) : shp (seN w) (seN v) := by simp [shp, shp.shps, leaf]
theorem shpMS (xs : List Value) (b : Ses) : shp (mkS xs) (seA b) := by simp [mkS, shp, shp.shps, leaf]
theorem shpMM (xs ys : List Value) : shp (mkS xs) (mkS ys) := by simp [mkS, shp, shp.shps, leaf]
theorem shpSM (xs : List Value) (b : Ses) : shp (seA b) (mkS xs) := by simp [mkS, shp, shp.shps, leaf]
theorem shpZM (w : Int) (xs : List Value) : shp (seN w) (mkS xs)
  := by simp [mkS, shp, shp.shps, leaf]
theorem shpMZ (w : Int) (xs : List Value) : shp (mkS xs) (seN w) := by simp [mkS, shp, shp.shps, leaf]
theorem cloneS_fun (ex : Bool) (l : List Ses) (hn : l.length < 2 ^ 38) : Fun C P F_cloneS [dSe ex l] [] (.sl 0 [] 0 l.length l.length false 14) [(0, .c (.arr l.length 14 (rowS l)))] := by
  by_cases h0 : l = []
  · subst h0
    refine fun_zero fun q c => ?_
    refine in_cloneS (W := w_cloneS) rfl 0 (by simp) rfl (fun id h => absurd rfl h) ?_
    cases q with
    | none => exact of_eq (cloneS_AN c 0 _) (post_row_nil rfl)
    | some a => exact of_eq (cloneS_AS a c 0 _) ⟨rfl, .inl rfl, (by first | omega | decide | (unfold I64; omega)), post_row rfl rfl rfl (Nat.le_refl _) (Nat.le_refl _) rfl fun i hi => absurd hi (Nat.not_lt_zero i)⟩
  · have hp : 0 < l.length := List.length_pos_iff.2 h0
    refine in_cloneS (W := w_cloneS) rfl 0 (by simp) rfl (fun id h => absurd rfl h) ?_
    exact of_eq (cloneS_A ex l 0 _) ⟨hp, rfl, .inl rfl, (by first | omega | decide | (unfold I64; omega)), post_row rfl rfl (Nat.zero_add _) (Nat.le_refl _) (by omega) (Nat.zero_add _) fun i hi => by simp [cat]⟩
theorem growS_fun (n : Nat) (hn : n < 2 ^ 38) : Fun C P F_growS [zD, i64 n] [] (.sl 0 [] 0 0 n false 14) [(0, .c (.arr n 14 (fun _ => seZ)))] := by
  refine in_growS (W := w_growS) rfl 0 (by simp) rfl (fun id h => absurd rfl h) ?_
  refine of_eq (growS_A n 0 _) ?_
  have hz : (((n : Nat) : Int) - 0).toNat = n := by omega
  rw [hz]
  refine ⟨fun h => ?_, fun _ => ⟨(by first | omega | decide | (unfold I64; omega)), (by first | omega | decide | (unfold I64; omega)), fun _ => ⟨⟨rfl, rfl, (by first | omega | decide | (unfold I64; omega))⟩, (by first | omega | decide | (unfold I64; omega)), (by first | omega | decide | (unfold I64; omega)), (by first | omega | decide | (unfold I64; omega)), ?_⟩, fun h => ?_⟩⟩
  · simp only [decide_eq_true_eq] at h
    omega
  · exact funPost_of (S2 := { tm := [(4, .sl 0 [] 0 0 n false 14)], hp := [(0, .c (.arr n 14 (fun _ => seZ)))], seen := [0] }) (by simp) (ent_of [(22, 0)] rfl (tm_cons rfl (sm_sl rfl rfl (Nat.zero_le _) (Nat.le_refl _) (by simp)) tm_nil) (hp_cons rfl rfl (sm_same rfl) hp_nil)) rfl
      (.inr ⟨rfl, rfl, rfl, rfl, Nat.zero_le _, Nat.le_refl _, by simp, rfl⟩) fun _ _ h => h
  · simp only [gt_iff_lt, decide_eq_false_iff_not] at h
    obtain rfl : n = 0 := by omega
    exact funPost_of (S2 := { tm := [(4, .sl 0 [] 0 0 0 false 14)], hp := [(0, .c (.arr 0 14 (fun _ => seZ)))], seen := [0] }) (by simp) (ent_of [] rfl (tm_cons rfl (sm_nil rfl rfl) tm_nil) (hp_new rfl rfl hp_nil)) rfl
      (.inr ⟨rfl, rfl, rfl, rfl, Nat.zero_le _, Nat.le_refl _, by simp, rfl⟩) fun _ _ h => h
theorem take_flat {ps : List (List Ses)} {i : Nat} (hi : i < ps.length) : (ps.take (i + 1)).flatten = (ps.take i).flatten ++ lAt ps i := by
  have e : ps[i]? = some (ps.getD i []) := by rw [List.getD_eq_getElem?_getD, List.getElem?_eq_getElem hi]; rfl
  rw [List.take_add_one, e]
  simp
theorem take_len (ps : List (List Ses)) (i : Nat) : (ps.take i).flatten.length ≤ ps.flatten.length := by
  have : ps.flatten = (ps.take i).flatten ++ (ps.drop i).flatten := by rw [← List.flatten_append, List.take_append_drop]
  rw [this, List.length_append]
  omega
theorem seAt_app (l m : List Ses) (k : Nat) : seAt (l ++ m) k = if k < l.length then seAt l k else seAt m (k - l.length) := by
  unfold seAt
  rw [List.getD_eq_getElem?_getD]
  split
  · rename_i h; rw [List.getElem?_append_left h, List.getD_eq_getElem?_getD]
  · rename_i h; rw [List.getElem?_append_right (by omega), List.getD_eq_getElem?_getD]
theorem lens_dL (exs : Nat → Bool) (ps : List (List Ses)) : lens ps.length (fun i => dSe (exs i) (lAt ps i)) = ps.flatten := by
  unfold lens
  congr 1
  refine List.ext_getElem (by simp) fun i h1 h2 => ?_
  simp only [List.getElem_map, List.getElem_range, toSeL]
  simp [List.getD_eq_getElem?_getD, List.getElem?_eq_getElem h2]
theorem concS_fun (ex : Bool) (exs : Nat → Bool) (ps : List (List Ses)) (hl : ps.length < 2 ^ 40) (hn : ps.flatten.length < 2 ^ 38) : Fun C P F_concS [dL ex exs ps] [] (.sl 0 [] 0 ps.flatten.length ps.flatten.length false 14) [(0, .c (.arr ps.flatten.length 14 (rowS ps.flatten)))] := by
  refine in_concS (W := w_concS) rfl 0 (by simp) rfl (fun id h => absurd rfl h) ?_
  refine of_eq (concS_A ex exs ps 0 _) ?_
  refine loop_inv (W := w_concS) ctx mixed ok_concS_0 (I_cc0 ex exs ps) (fun i => i ≤ ps.length) (fun i => ps.length - i) 0 (Nat.zero_le _) ?_ fun i hi => ?_
  · exact ent_of [] rfl (tm_cons rfl (sm_same rfl) (tm_cons rfl (sm_same rfl) (tm_cons rfl (sm_same rfl) (tm_cons rfl (sm_same rfl) (tm_cons rfl (sm_same rfl) tm_nil))))) hp_nil
  have ht := take_len ps
  refine of_eq (concS_L0 ex exs ps i 0 _) ⟨fun h => ?_, fun h => ?_⟩
  · simp only [decide_eq_true_eq] at h
    have hs := congrArg List.length (take_flat (ps := ps) (i := i) (by omega))
    rw [List.length_append] at hs
    have h1 := ht (i + 1)
    refine ⟨(by first | omega | decide | (unfold I64; omega)), (by first | omega | decide | (unfold I64; omega)), fun h2 => ?_, fun _ => ⟨(by first | omega | decide | (unfold I64; omega)), round_end (i + 1) (by omega) (ent_of [] rfl (tm_cons rfl (sm_same rfl) (tm_cons rfl (sm_int (by omega)) (tm_cons rfl (sm_same rfl) (tm_cons rfl (sm_same rfl) (tm_cons rfl (sm_same rfl) tm_nil))))) hp_nil) (by dsimp only; omega)⟩⟩
    simp only [decide_eq_true_eq] at h2
    omega
  · simp only [decide_eq_false_iff_not] at h
    obtain rfl : i = ps.length := by omega
    rw [List.take_length, Int.toNat_natCast]
    refine ⟨growS_fun _ hn, ?_⟩
    refine loop_inv (W := w_concS) ctx mixed ok_concS_1 (I_cc1 ex exs ps) (fun i => i ≤ ps.length) (fun i => ps.length - i) 0 (Nat.zero_le _) ?_ fun i hi => ?_
    · exact ent_of [(24, 6)] rfl (tm_cons rfl (sm_sl rfl rfl (Nat.zero_le _) (Nat.le_refl _) (by simp)) (tm_cons rfl (sm_same rfl) (tm_cons rfl (sm_same rfl) (tm_cons rfl (sm_same rfl) tm_nil)))) (hp_cons rfl rfl (sm_arr fun j hj => by unfold rowZ; simp) hp_nil)
    refine of_eq (concS_L1 ex exs ps i 0 _) ⟨fun h => ?_, fun h => ?_⟩
    · simp only [decide_eq_true_eq] at h
      have hf := take_flat (ps := ps) (i := i) (by omega)
      have hs := congrArg List.length hf
      rw [List.length_append] at hs
      have h1 := ht (i + 1)
      refine ⟨(by first | omega | decide | (unfold I64; omega)), (by first | omega | decide | (unfold I64; omega)), fun k hk => ?_, (by first | omega | decide | (unfold I64; omega)), round_end (i + 1) (by omega) (ent_of [(6, 6)] rfl (tm_cons rfl (sm_sl rfl (by omega) (by omega) (Nat.le_refl _) (by simp)) (tm_cons rfl (sm_same rfl) (tm_cons rfl (sm_same rfl) (tm_cons rfl (sm_same rfl) tm_nil)))) (hp_cons rfl rfl (sm_arr fun j hj => ?_) hp_nil)) (by dsimp only; omega)⟩
      · unfold rowZ
        split
        · exact shpSS _ _
        · exact shpZS _ _
      · unfold lay rowZ
        rw [hf, List.length_append, seAt_app]
        by_cases h2 : j < (ps.take i).flatten.length
        · rw [if_pos (by omega), if_pos h2, if_pos (by omega), if_pos h2]
        · rw [if_neg (by omega)]
          by_cases h3 : j < (ps.take i).flatten.length + (lAt ps i).length
          · rw [if_pos (by omega), if_pos h3, if_neg h2, Nat.zero_add]
          · rw [if_neg (by omega), if_neg h2, if_neg h3]
    · simp only [decide_eq_false_iff_not] at h
      obtain rfl : i = ps.length := by omega
      rw [List.take_length]
      exact post_row rfl rfl rfl (Nat.le_refl _) (Nat.le_refl _) rfl fun j hj => by unfold rowZ; rw [if_pos hj]
set_option maxRecDepth 100000 in
theorem ovl_fun {n c c' o n' : Nat} {ex ex' : Bool} {f g : Nat → AV} {m m' : Nat} : Fun C P 54 [.sl 0 [] 0 n c ex 14, .sl 1 [] o n' c' ex' 14] [(0, .c (.arr m 14 f)), (1, .c (.arr m' 14 g))] (.v (.bool false)) [(0, .c (.arr m 14 f)), (1, .c (.arr m' 14 g))] := by
  have hz : ∀ w, (Go.sizeOf 48).run P w = .ok 14 w := fun w => by rw [run_sizeOf ctx (t := 48) (by kernel_rfl)]; kernel_rfl
  exact fun_ovl (fn := Proofs.Try.f54) (tS := 24) (tR := 4) (et := 48) Proofs.Try.func54 (by kernel_rfl) (by kernel_rfl) (by kernel_rfl) (by kernel_rfl) (by kernel_rfl) 14 hz rfl (by decide)
/-- Fourteen cells, read as an element. -/
theorem mkS_rep (w : World) (A : Nat → Prop) (xs : List Value) (hl : xs.length = 14) (hn : ∀ z, z ∈ xs → nota z = true) : Rep w A (fun _ => none) (mkS xs) xs := by
  match xs, hl with
  | [x0, x1, x2, x3, x4, x5, x6, x7, x8, x9, x10, x11, x12, x13], _ =>
    have h : ∀ z, z ∈ [x0, x1, x2, x3, x4, x5, x6, x7, x8, x9, x10, x11, x12, x13] → nota z = true := hn
    simp only [List.mem_cons, List.not_mem_nil, or_false, forall_eq_or_imp, forall_eq] at h
    obtain ⟨h0, h1, h2, h3, h4, h5, h6, h7, h8, h9, h10, h11, h12, h13⟩ := h
    have r1 : Rep w A (fun _ => none) (.st [.v x6, .v x7, .v x8, .v x9, .v x10, .v x11, .v x12, .v x13]) [x6, x7, x8, x9, x10, x11, x12, x13] :=
      .st (fun i => [nthD [x6, x7, x8, x9, x10, x11, x12, x13] i undef]) (fun i x hx => by
        match i, hx with
        | 0, rfl => exact .v h6
        | 1, rfl => exact .v h7
        | 2, rfl => exact .v h8
        | 3, rfl => exact .v h9
        | 4, rfl => exact .v h10
        | 5, rfl => exact .v h11
        | 6, rfl => exact .v h12
        | 7, rfl => exact .v h13
        | _ + 8, hx => cases hx) rfl
    have r2 : Rep w A (fun _ => none) (.st [.v x2, .v x3, .v x4, .v x5, .st [.v x6, .v x7, .v x8, .v x9, .v x10, .v x11, .v x12, .v x13]]) [x2, x3, x4, x5, x6, x7, x8, x9, x10, x11, x12, x13] :=
      .st (fun i => nthD [[x2], [x3], [x4], [x5], [x6, x7, x8, x9, x10, x11, x12, x13]] i []) (fun i x hx => by
        match i, hx with
        | 0, rfl => exact .v h2
        | 1, rfl => exact .v h3
        | 2, rfl => exact .v h4
        | 3, rfl => exact .v h5
        | 4, rfl => exact r1
        | _ + 5, hx => cases hx) rfl
    exact .st (fun i => nthD [[x0], [x1], [x2, x3, x4, x5, x6, x7, x8, x9, x10, x11, x12, x13]] i []) (fun i x hx => by
      match i, hx with
      | 0, rfl => exact .v h0
      | 1, rfl => exact .v h1
      | 2, rfl => exact r2
      | _ + 3, hx => cases hx) rfl
set_option maxRecDepth 100000 in
theorem insS_fun (l : List Ses) (x : Int) (i : Nat) (hi : i ≤ l.length) (hn : l.length < 2 ^ 36) : Fun C P F_insS [.sl 0 [] 0 l.length l.length false 14, i64 i, .sl 1 [] 0 1 1 true 14] [(0, .c (.arr l.length 14 (rowS l))), (1, .c (.arr 1 14 (fun _ => seN x)))]
    (.sl 2 [] 0 (l.length + 1) (l.length + 1) false 14) [(2, .c (.arr (l.length + 1) 14 (insF i (seN x) (rowS l))))] := by
  by_cases he : i = l.length
  · subst he
    refine in_insS (W := w_insS) rfl 2 (by simp) rfl two_id ?_
    refine of_eq (insS_AE l x 2 _) ⟨(by first | omega | decide | (unfold I64; omega)), fun h => (absurd h (by decide)), fun _ => ⟨fun _ => ⟨(by first | omega | decide | (unfold I64; omega)), post_row2 rfl rfl rfl (Nat.le_refl _) (Nat.le_refl _) rfl fun k hk => ?_⟩, fun h => by simp at h⟩⟩
    exact ins_end (rowS l) (seN x) hk
  · have hlt : i < l.length := by omega
    refine fun_caps mkS (fun w A xs h1 h2 => mkS_rep w A xs h1 h2) rfl rfl ⟨_, _, _, _, _, _, rfl⟩ fun rc sp hrc hsl hsp => ?_
    by_cases hroom : l.length + 1 ≤ rc
    · let G : Nat → AV := fun j => if j < l.length then rowS l j else mkS (sp j)
      refine ⟨0, rc, lay (0 + i) (min 1 (l.length + 1 - i)) (lay (0 + (i + 1)) (min (l.length + 1 - i) (l.length + 1 - (i + 1))) G (fun j => G (0 + i + j))) (fun _ => seN x), hroom, fun k hk => (ins_room G (seN x) hlt hk).trans (ins_cut _ _ _ hlt hk), ?_⟩
      refine in_insS (W := w_insS) rfl 2 (by simp) rfl two_id ?_
      refine of_eq (insS_AX l x rc i sp 2 _) ⟨(by first | omega | decide | (unfold I64; omega)), fun h => (absurd h (by decide)), fun _ => ⟨fun h => by simp at h; omega, fun _ => ⟨(by first | omega | decide | (unfold I64; omega)), fun h => by simp at h; omega, fun _ => ?_⟩⟩⟩
      refine ⟨(by first | omega | decide | (unfold I64; omega)), (by first | omega | decide | (unfold I64; omega)), (by first | omega | decide | (unfold I64; omega)), (by first | omega | decide | (unfold I64; omega)), ovl_fun, (by first | omega | decide | (unfold I64; omega)), (by first | omega | decide | (unfold I64; omega)), (by first | omega | decide | (unfold I64; omega)), fun _ _ => shp_ite2 (shp_ite (shpSS _ _) (shpMS _ _)) (shp_ite (shpSM _ _) (shpMM _ _)), (by first | omega | decide | (unfold I64; omega)), fun _ _ => shp_lay (shp_ite (shpSZ _ _) (shpMZ _ _)) (shp_ite (shpSZ _ _) (shpMZ _ _)), ?_⟩
      exact post_row20 rfl rfl rfl (Nat.le_refl _) hroom rfl fun k hk => rfl
    · refine ⟨2, l.length + 1, insF i (seN x) (fun j => if j < l.length then rowS l j else mkS (sp j)), Nat.le_refl _, fun k hk => ins_cut _ _ _ hlt hk, ?_⟩
      refine in_insS (W := w_insS) rfl 2 (by simp) rfl two_id ?_
      refine of_eq (insS_AX l x rc i sp 2 _) ⟨(by first | omega | decide | (unfold I64; omega)), fun h => (absurd h (by decide)), fun _ => ⟨fun h => by simp at h; omega, fun _ => ⟨(by first | omega | decide | (unfold I64; omega)), fun _ => ?_, fun h => by simp at h; omega⟩⟩⟩
      refine ⟨(by first | omega | decide | (unfold I64; omega)), (by first | omega | decide | (unfold I64; omega)), (by first | omega | decide | (unfold I64; omega)), (by first | omega | decide | (unfold I64; omega)), (by first | omega | decide | (unfold I64; omega)), (by first | omega | decide | (unfold I64; omega)), (by first | omega | decide | (unfold I64; omega)), fun _ _ => shp_cat (shp_ite (shpSZ _ _) (shpMZ _ _)) (shpZZ _ _), (by first | omega | decide | (unfold I64; omega)), (by first | omega | decide | (unfold I64; omega)), (by first | omega | decide | (unfold I64; omega)), fun _ _ => shp_ite2 (shp_lay (shp_cat (shp_ite (shpSS _ _) (shpMS _ _)) (shpZS _ _)) (shpZS _ _)) (shp_lay (shp_cat (shp_ite (shpSM _ _) (shpMM _ _)) (shpZM _ _)) (shpZM _ _)), ?_⟩
      refine post_row2 rfl rfl (show i + (((l.length + 1 : Nat) : Int) - (i : Int)).toNat = l.length + 1 by omega) (Nat.le_refl _) (show l.length + 1 ≤ i + (((l.length + 1 : Nat) : Int) - (i : Int)).toNat by omega) (show i + (((l.length + 1 : Nat) : Int) - (i : Int)).toNat = l.length + 1 by omega) fun k hk => ?_
      exact ins_grow (fun j => if j < l.length then rowS l j else mkS (sp j)) seZ (seN x) hlt (show k < l.length + 1 by omega) (show (((l.length + 1 : Nat) : Int) - (i : Int)).toNat = l.length + 1 - i by omega)
end Go.Bu.W

namespace Go.Bu.W
def hasS (l : List Ses) (who : Int) : Bool := bsB (cW who) l
def posS (l : List Ses) (who : Int) : Nat := bsI (cW who) l
def atS (l : List Ses) (who : Int) : Ses := seAt l (posS l who)
def begE (l : List Ses) (who : Int) : Int := if who < 0 then 1 else if hasS l who then 190 else if l.length = 8 then 2 else 0
def begL (l : List Ses) (who : Int) : List Ses := if begE l who = 0 then l.insertIdx (posS l who) ⟨who, 0, rp0⟩ else l
def seenE (l : List Ses) (who seq : Int) : Int := if hasS l who = false ∨ seq > (atS l who).seq + 1 then 190 else if seq = (atS l who).seq + 1 then 0 else if seq < (atS l who).seq ∨ seq = 0 then 191 else 0
def seenB (l : List Ses) (who seq : Int) : Bool := decide (seenE l who seq = 0) && decide (seq ≠ (atS l who).seq + 1)
def seenR (l : List Ses) (who seq : Int) : Rp := if seenB l who seq then (atS l who).last else rp0
def doneE (l : List Ses) (who seq : Int) : Int := if hasS l who = false ∨ seq ≠ (atS l who).seq + 1 then 190 else if seq > 1000000000 then 2 else 0
def doneL (l : List Ses) (who seq : Int) (r : Rp) : List Ses := if doneE l who seq = 0 then l.set (posS l who) ⟨who, seq, r⟩ else l
def endE (l : List Ses) (who : Int) : Int := if hasS l who then 0 else 190
def endL (l : List Ses) (who : Int) : List Ses := if hasS l who then l.eraseIdx (posS l who) else l
def okS (l : List Ses) (i : Nat) : Bool := decide ((if i = 0 then -1 else (seAt l (i - 1)).who) < (seAt l i).who) && decide (0 ≤ (seAt l i).seq) && decide ((seAt l i).seq ≤ 1000000000) && (decide ((seAt l i).seq ≠ 0) || eqR (seAt l i).last rp0)
def vB (l : List Ses) : Bool := (List.range l.length).all (okS l) && decide (l.length ≤ 8)
def cr1 {α : Type} (h : AV → α) (q : α → AV) : List AV → Option (AV × List (Nat × Blk))
  | [x] => some (q (h x), [])
  | _ => none
def cr2 {α : Type} (h : AV → α) (q : α → Int → AV) : List AV → Option (AV × List (Nat × Blk))
  | [x, y] => some (q (h x) (asI y), [])
  | _ => none
def cr3 {α : Type} (h : AV → α) (q : α → Int → Int → AV) : List AV → Option (AV × List (Nat × Blk))
  | [x, y, z] => some (q (h x) (asI y) (asI z), [])
  | _ => none
def cr4 {α : Type} (h : AV → α) (q : α → Int → Int → Rp → AV) : List AV → Option (AV × List (Nat × Blk))
  | [x, y, z, r] => some (q (h x) (asI y) (asI z) (toRp r), [])
  | _ => none
abbrev tBeg (l : List Ses) (who : Int) : AV := .tup [dSe false (begL l who), .i (begE l who)]
abbrev tSeen (l : List Ses) (who seq : Int) : AV := .tup [rpA (seenR l who seq), .sb (seenB l who seq), .i (seenE l who seq)]
abbrev tDone (l : List Ses) (who seq : Int) (r : Rp) : AV := .tup [dSe false (doneL l who seq r), .i (doneE l who seq)]
abbrev tEnd (l : List Ses) (who : Int) : AV := .tup [dSe false (endL l who), .i (endE l who)]
def crN5 (g : Nat) (args : List AV) (H : List (Nat × Blk)) : Option (AV × List (Nat × Blk)) :=
  sel (Nat.beq g F_valid) (cr1 toLS (fun l => .sb (vB l)) args) <| sel (Nat.beq g F_sbegin) (cr2 toLS tBeg args) <| sel (Nat.beq g F_sseen) (cr3 toLS tSeen args) <|
  sel (Nat.beq g F_sdone) (cr4 toLS tDone args) <| sel (Nat.beq g F_send) (cr2 toLS tEnd args) <| crN4 g args H
def wayS (keep : List Nat) (nt : Nat) (cuts : List Nat) : Way := ⟨crN5, byrefI, keep, [], nt, cuts⟩
def crConc2 : List AV → Option (AV × List (Nat × Blk))
  | [.dat _ _ _ f] => some (.sl 0 [] 0 (toLS (f 0) ++ toLS (f 1)).length (toLS (f 0) ++ toLS (f 1)).length false 14, [(0, .c (.arr (toLS (f 0) ++ toLS (f 1)).length 14 (rowS (toLS (f 0) ++ toLS (f 1)))))])
  | _ => none
def wayF (keep : List Nat) (nt : Nat) (cuts : List Nat) : Way := ⟨fun g args H => sel (Nat.beq g F_concS) (crConc2 args) (crN5 g args H), byrefI, keep, [], nt, cuts⟩
def w_valid : Way := wayS [0, 2, 3, 5, 6, 7, 8, 9, 37] 44 []
def w_sbegin : Way := wayS [0, 1, 4, 5, 6, 7, 14, 18, 21] 33 []
def w_sseen : Way := wayS [0, 1, 2, 6, 7, 8, 9, 10, 17, 31, 41] 59 []
def w_sdone : Way := wayS [0, 1, 2, 3, 7, 8, 9, 10, 11, 29, 32] 44 []
def w_send : Way := wayF [0, 1, 4, 5, 6, 7, 15] 26 []
def prevW (l : List Ses) (i : Nat) : Int := if i = 0 then -1 else (seAt l (i - 1)).who
def I_v (ex : Bool) (l : List Ses) (i : Nat) : St := { tm := [(0, dSe ex l), (3, .i (prevW l i)), (6, dSe ex l), (7, i64 l.length), (8, i64 i)], hp := [], seen := [] }

theorem valid_A (ex : Bool) (l : List Ses) (K : Nat) (Φ : Ex → St → Prop) :
  (Holds C P 44 [] K Φ (vc C w_valid b_valid [] (start [dSe ex l] []) lf)) =
  (LoopOK W.C W.P 44 [] K (bodyAt b_valid [1, 1, 0, 1, 0]) (St.mk [(0, (W.dSe ex l)), (2, (AV.v (Value.bool false))), (3, (AV.i (-1 : Int))), (6, (W.dSe ex l)), (7, (AV.i (((List.length l) : Nat) : Int))), (8, (AV.i (0 : Int)))] [] []) (fun (e : Ex) (S' : St) => Holds W.C W.P 44 [] K Φ (after W.C w_valid b_valid [1, 1, 0, 1, 0] [] lf e S'))) := by kernel_rfl
noncomputable abbrev bd_valid_0 : Code := bodyAt (b_valid) [1, 1, 0, 1, 0]
theorem ok_valid_0 : codeOK bd_valid_0 = true := by kernel_rfl
noncomputable abbrev rest_valid_0 (K : Nat) (Φ : Ex → St → Prop) : Ex → St → Prop := fun e S' => Holds C P 44 [] K Φ (after C w_valid (b_valid) [1, 1, 0, 1, 0] [] lf e S')
theorem valid_L0 (ex : Bool) (l : List Ses) (i : Nat) (K : Nat) (Φ : Ex → St → Prop) :
  (Holds C P 44 [] K (RoundQ C 44 [] K (I_v ex l) (fun i => i ≤ l.length ∧ ∀ k, k < i → okS l k = true) (fun i => l.length - i) ((fun i => l.length - i) (i)) (rest_valid_0 K Φ)) (vc C w_valid bd_valid_0 [] ((I_v ex l) (i)) lf)) =
  (((decide (((i : Nat) : Int) < (((List.length l) : Nat) : Int))) = true →
 ((((0 : Int) ≤ ((i : Nat) : Int)) ∧ (((i : Nat) : Int) < (((List.length l) : Nat) : Int))) ∧
  ((((true = true) ∧ (true = true)) ∧ (((true = true) ∧ (true = true)) ∧ ((((true = true) ∧ (true = true)) ∧ (((true = true) ∧ (true = true)) ∧ (((true = true) ∧ (true = true)) ∧ (((true = true) ∧ (true = true)) ∧ ((((true = true) ∧ (true = true)) ∧ (((true = true) ∧ (true = true)) ∧ (((true = true) ∧ (true = true)) ∧ (((true = true) ∧ (true = true)) ∧ (((true = true) ∧ (true = true)) ∧ (((true = true) ∧ (true = true)) ∧ (W.Sh2))))))) ∧ True))))) ∧ True))) ∧
  (((decide ((W.Ses.who (W.seAt l i)) ≤ (W.prevW l i))) = true →
  (Φ Ex.ret (St.mk [(0, (W.dSe ex l)), (2, (AV.v (Value.bool false))), (3, (AV.i (W.prevW l i))), (5, (AV.ptr 5 [])), (6, (W.dSe ex l)), (7, (AV.i (((List.length l) : Nat) : Int))), (8, (AV.i ((i : Nat) : Int))), (9, (AV.v (Value.bool true))), (37, (AV.v (Value.bool true)))] [(5, (Blk.c (W.seA (W.seAt l i))))] [5]))) ∧
  ((decide ((W.Ses.who (W.seAt l i)) ≤ (W.prevW l i))) = false →
  (((decide ((W.Ses.seq (W.seAt l i)) < (0 : Int))) = true →
   (Φ Ex.ret (St.mk [(0, (W.dSe ex l)), (2, (AV.v (Value.bool false))), (3, (AV.i (W.prevW l i))), (5, (AV.ptr 5 [])), (6, (W.dSe ex l)), (7, (AV.i (((List.length l) : Nat) : Int))), (8, (AV.i ((i : Nat) : Int))), (9, (AV.v (Value.bool true))), (37, (AV.v (Value.bool true)))] [(5, (Blk.c (W.seA (W.seAt l i))))] [5]))) ∧
   ((decide ((W.Ses.seq (W.seAt l i)) < (0 : Int))) = false →
   (((decide ((W.Ses.seq (W.seAt l i)) > (1000000000 : Int))) = true →
    (Φ Ex.ret (St.mk [(0, (W.dSe ex l)), (2, (AV.v (Value.bool false))), (3, (AV.i (W.prevW l i))), (5, (AV.ptr 5 [])), (6, (W.dSe ex l)), (7, (AV.i (((List.length l) : Nat) : Int))), (8, (AV.i ((i : Nat) : Int))), (9, (AV.v (Value.bool true))), (37, (AV.v (Value.bool true)))] [(5, (Blk.c (W.seA (W.seAt l i))))] [5]))) ∧
    ((decide ((W.Ses.seq (W.seAt l i)) > (1000000000 : Int))) = false →
    ((((W.Ses.seq (W.seAt l i)) == (0 : Int)) = true →
     (Fun W.C W.P 17 [(W.rpA (W.Ses.last (W.seAt l i))), (W.rpZ)] [] (AV.sb (W.eqR (W.toRp (W.rpA (W.Ses.last (W.seAt l i)))) (W.rp0))) [] ∧
      (True ∧
      (((! (W.eqR (W.toRp (W.rpA (W.Ses.last (W.seAt l i)))) (W.rp0))) = true →
      (Φ Ex.ret (St.mk [(0, (W.dSe ex l)), (2, (AV.v (Value.bool false))), (3, (AV.i (W.prevW l i))), (5, (AV.ptr 5 [])), (6, (W.dSe ex l)), (7, (AV.i (((List.length l) : Nat) : Int))), (8, (AV.i ((i : Nat) : Int))), (9, (AV.v (Value.bool true))), (37, (AV.v (Value.bool true)))] [(5, (Blk.c (W.seA (W.seAt l i))))] [5]))) ∧
      ((! (W.eqR (W.toRp (W.rpA (W.Ses.last (W.seAt l i)))) (W.rp0))) = false →
      ((I64 (((i + 1) : Nat) : Int)) ∧
       ((RoundQ C 44 [] K (I_v ex l) (fun i => i ≤ l.length ∧ ∀ k, k < i → okS l k = true) (fun i => l.length - i) ((fun i => l.length - i) (i)) (rest_valid_0 K Φ)) Ex.normal (St.mk [(0, (W.dSe ex l)), (3, (AV.i (W.Ses.who (W.seAt l i)))), (5, (AV.ptr 5 [])), (6, (W.dSe ex l)), (7, (AV.i (((List.length l) : Nat) : Int))), (8, (AV.i (((i + 1) : Nat) : Int))), (9, (AV.v (Value.bool true))), (37, (AV.v (Value.bool false)))] [(5, (Blk.c (W.seA (W.seAt l i))))] [5])))))))) ∧
     (((W.Ses.seq (W.seAt l i)) == (0 : Int)) = false →
     ((I64 (((i + 1) : Nat) : Int)) ∧
      ((RoundQ C 44 [] K (I_v ex l) (fun i => i ≤ l.length ∧ ∀ k, k < i → okS l k = true) (fun i => l.length - i) ((fun i => l.length - i) (i)) (rest_valid_0 K Φ)) Ex.normal (St.mk [(0, (W.dSe ex l)), (3, (AV.i (W.Ses.who (W.seAt l i)))), (5, (AV.ptr 5 [])), (6, (W.dSe ex l)), (7, (AV.i (((List.length l) : Nat) : Int))), (8, (AV.i (((i + 1) : Nat) : Int))), (9, (AV.v (Value.bool true))), (37, (AV.v (Value.bool false)))] [(5, (Blk.c (W.seA (W.seAt l i))))] [5])))))))))))))) ∧
 ((decide (((i : Nat) : Int) < (((List.length l) : Nat) : Int))) = false →
 (Φ Ex.ret (St.mk [(0, (W.dSe ex l)), (2, (AV.sb (decide ((((List.length l) : Nat) : Int) ≤ (8 : Int))))), (3, (AV.i (W.prevW l i))), (6, (W.dSe ex l)), (7, (AV.i (((List.length l) : Nat) : Int))), (8, (AV.i ((i : Nat) : Int))), (9, (AV.v (Value.bool false)))] [] [])))) := by kernel_rfl
theorem sbegin_A (ex : Bool) (l : List Ses) (who : Int) (K : Nat) (Φ : Ex → St → Prop) :
  (Holds C P 33 [] K Φ (vc C w_sbegin b_sbegin [] (start [dSe ex l, .i who] []) lf)) =
  (Fun W.C W.P 44 [(W.dSe ex l), (AV.i who)] [] (AV.tup [(AV.i (((bsI (W.cW who) (W.toLS (W.dSe ex l))) : Nat) : Int)), (AV.sb (bsB (W.cW who) (W.toLS (W.dSe ex l))))]) [] ∧
 (((decide (who < (0 : Int))) = true →
 (Φ Ex.ret (St.mk [(0, (W.dSe ex l)), (1, (AV.i who)), (4, (W.dSe ex l)), (5, (AV.i (1 : Int))), (6, (AV.i (((bsI (W.cW who) (W.toLS (W.dSe ex l))) : Nat) : Int))), (7, (AV.sb (bsB (W.cW who) (W.toLS (W.dSe ex l))))), (14, (AV.v (Value.bool true)))] [] []))) ∧
 ((decide (who < (0 : Int))) = false →
 (((bsB (W.cW who) (W.toLS (W.dSe ex l))) = true →
  (Φ Ex.ret (St.mk [(0, (W.dSe ex l)), (1, (AV.i who)), (4, (W.dSe ex l)), (5, (AV.i (190 : Int))), (6, (AV.i (((bsI (W.cW who) (W.toLS (W.dSe ex l))) : Nat) : Int))), (7, (AV.sb (bsB (W.cW who) (W.toLS (W.dSe ex l))))), (14, (AV.v (Value.bool false))), (18, (AV.v (Value.bool true)))] [] []))) ∧
  ((bsB (W.cW who) (W.toLS (W.dSe ex l))) = false →
  ((((((List.length l) : Nat) : Int) == (8 : Int)) = true →
   (Φ Ex.ret (St.mk [(0, (W.dSe ex l)), (1, (AV.i who)), (4, (W.dSe ex l)), (5, (AV.i (2 : Int))), (6, (AV.i (((bsI (W.cW who) (W.toLS (W.dSe ex l))) : Nat) : Int))), (7, (AV.sb (bsB (W.cW who) (W.toLS (W.dSe ex l))))), (14, (AV.v (Value.bool false))), (18, (AV.v (Value.bool false))), (21, (AV.v (Value.bool true)))] [] []))) ∧
   (((((List.length l) : Nat) : Int) == (8 : Int)) = false →
   (Fun W.C W.P 46 [(W.dSe ex l)] [] (AV.sl 0 [] 0 (List.length l) (List.length l) false 14) [(0, (Blk.c (AV.arr (List.length l) 14 (W.rowS l))))] ∧
    (Fun W.C W.P 45 [(AV.sl 0 [] 0 (List.length l) (List.length l) false 14), (AV.i (((bsI (W.cW who) (W.toLS (W.dSe ex l))) : Nat) : Int)), (AV.sl 1 [] 0 1 1 true 14)] [(0, (Blk.c (AV.arr (List.length l) 14 (W.rowS l)))), (1, (Blk.c (AV.st [(W.seN who)])))] (AV.sl 2 [] 0 ((List.length l) + 1) ((List.length l) + 1) false 14) [(2, (Blk.c (AV.arr ((List.length l) + 1) 14 (insF (Int.toNat (((bsI (W.cW who) (W.toLS (W.dSe ex l))) : Nat) : Int)) (W.seN who) (fun (i : Nat) => (W.seA (W.seAt l i)))))))] ∧
    (Φ Ex.ret (St.mk [(0, (W.dSe ex l)), (1, (AV.i who)), (4, (AV.sl 32 [] 0 ((List.length l) + 1) ((List.length l) + 1) false 14)), (5, (AV.i (0 : Int))), (6, (AV.i (((bsI (W.cW who) (W.toLS (W.dSe ex l))) : Nat) : Int))), (7, (AV.sb (bsB (W.cW who) (W.toLS (W.dSe ex l))))), (14, (AV.v (Value.bool false))), (18, (AV.v (Value.bool false))), (21, (AV.v (Value.bool false)))] [(32, (Blk.c (AV.arr ((List.length l) + 1) 14 (insF (Int.toNat (((bsI (W.cW who) (W.toLS (W.dSe ex l))) : Nat) : Int)) (W.seN who) (fun (i : Nat) => (W.seA (W.seAt l i)))))))] [32, 31, 27]))))))))))) := by kernel_rfl
theorem sseen_A (ex : Bool) (l : List Ses) (who seq : Int) (K : Nat) (Φ : Ex → St → Prop) :
  (Holds C P 59 [] K Φ (vc C w_sseen b_sseen [] (start [dSe ex l, .i who, .i seq] []) lf)) =
  (Fun W.C W.P 44 [(W.dSe ex l), (AV.i who)] [] (AV.tup [(AV.i (((bsI (W.cW who) (W.toLS (W.dSe ex l))) : Nat) : Int)), (AV.sb (bsB (W.cW who) (W.toLS (W.dSe ex l))))]) [] ∧
 (((! (bsB (W.cW who) (W.toLS (W.dSe ex l)))) = true →
 ((((true = true) ∧ (true = true)) ∧ (((true = true) ∧ (true = true)) ∧ (((true = true) ∧ (true = true)) ∧ (((true = true) ∧ (true = true)) ∧ ((((true = true) ∧ (true = true)) ∧ (((true = true) ∧ (true = true)) ∧ (((true = true) ∧ (true = true)) ∧ (((true = true) ∧ (true = true)) ∧ (((true = true) ∧ (true = true)) ∧ (((true = true) ∧ (true = true)) ∧ (W.Sh2))))))) ∧ True))))) ∧
  (Φ Ex.ret (St.mk [(0, (W.dSe ex l)), (1, (AV.i who)), (2, (AV.i seq)), (6, (AV.ptr 6 [])), (7, (AV.v (Value.bool false))), (8, (AV.i (190 : Int))), (9, (AV.i (((bsI (W.cW who) (W.toLS (W.dSe ex l))) : Nat) : Int))), (10, (AV.sb (bsB (W.cW who) (W.toLS (W.dSe ex l))))), (17, (AV.v (Value.bool true)))] [(6, (Blk.c (W.rpZ)))] [6])))) ∧
 ((! (bsB (W.cW who) (W.toLS (W.dSe ex l)))) = false →
 ((((0 : Int) ≤ (((bsI (W.cW who) (W.toLS (W.dSe ex l))) : Nat) : Int)) ∧ ((((bsI (W.cW who) (W.toLS (W.dSe ex l))) : Nat) : Int) < (((List.length l) : Nat) : Int))) ∧
  ((I64 ((W.Ses.seq (W.seAt l (bsI (W.cW who) (W.toLS (W.dSe ex l))))) + (1 : Int))) ∧
  (((decide (seq > ((W.Ses.seq (W.seAt l (bsI (W.cW who) (W.toLS (W.dSe ex l))))) + (1 : Int)))) = true →
  ((((true = true) ∧ (true = true)) ∧ (((true = true) ∧ (true = true)) ∧ (((true = true) ∧ (true = true)) ∧ (((true = true) ∧ (true = true)) ∧ ((((true = true) ∧ (true = true)) ∧ (((true = true) ∧ (true = true)) ∧ (((true = true) ∧ (true = true)) ∧ (((true = true) ∧ (true = true)) ∧ (((true = true) ∧ (true = true)) ∧ (((true = true) ∧ (true = true)) ∧ (W.Sh2))))))) ∧ True))))) ∧
   (Φ Ex.ret (St.mk [(0, (W.dSe ex l)), (1, (AV.i who)), (2, (AV.i seq)), (6, (AV.ptr 6 [])), (7, (AV.v (Value.bool false))), (8, (AV.i (190 : Int))), (9, (AV.i (((bsI (W.cW who) (W.toLS (W.dSe ex l))) : Nat) : Int))), (10, (AV.sb (bsB (W.cW who) (W.toLS (W.dSe ex l))))), (17, (AV.v (Value.bool true)))] [(6, (Blk.c (W.rpZ)))] [6])))) ∧
  ((decide (seq > ((W.Ses.seq (W.seAt l (bsI (W.cW who) (W.toLS (W.dSe ex l))))) + (1 : Int)))) = false →
  ((((0 : Int) ≤ (((bsI (W.cW who) (W.toLS (W.dSe ex l))) : Nat) : Int)) ∧ ((((bsI (W.cW who) (W.toLS (W.dSe ex l))) : Nat) : Int) < (((List.length l) : Nat) : Int))) ∧
   ((I64 ((W.Ses.seq (W.seAt l (bsI (W.cW who) (W.toLS (W.dSe ex l))))) + (1 : Int))) ∧
   (((seq == ((W.Ses.seq (W.seAt l (bsI (W.cW who) (W.toLS (W.dSe ex l))))) + (1 : Int))) = true →
   ((((true = true) ∧ (true = true)) ∧ (((true = true) ∧ (true = true)) ∧ (((true = true) ∧ (true = true)) ∧ (((true = true) ∧ (true = true)) ∧ ((((true = true) ∧ (true = true)) ∧ (((true = true) ∧ (true = true)) ∧ (((true = true) ∧ (true = true)) ∧ (((true = true) ∧ (true = true)) ∧ (((true = true) ∧ (true = true)) ∧ (((true = true) ∧ (true = true)) ∧ (W.Sh2))))))) ∧ True))))) ∧
    (Φ Ex.ret (St.mk [(0, (W.dSe ex l)), (1, (AV.i who)), (2, (AV.i seq)), (6, (AV.ptr 6 [])), (7, (AV.v (Value.bool false))), (8, (AV.i (0 : Int))), (9, (AV.i (((bsI (W.cW who) (W.toLS (W.dSe ex l))) : Nat) : Int))), (10, (AV.sb (bsB (W.cW who) (W.toLS (W.dSe ex l))))), (17, (AV.v (Value.bool false))), (31, (AV.v (Value.bool true)))] [(6, (Blk.c (W.rpZ)))] [6])))) ∧
   ((seq == ((W.Ses.seq (W.seAt l (bsI (W.cW who) (W.toLS (W.dSe ex l))))) + (1 : Int))) = false →
   ((((0 : Int) ≤ (((bsI (W.cW who) (W.toLS (W.dSe ex l))) : Nat) : Int)) ∧ ((((bsI (W.cW who) (W.toLS (W.dSe ex l))) : Nat) : Int) < (((List.length l) : Nat) : Int))) ∧
    (((decide (seq < (W.Ses.seq (W.seAt l (bsI (W.cW who) (W.toLS (W.dSe ex l))))))) = true →
    ((((true = true) ∧ (true = true)) ∧ (((true = true) ∧ (true = true)) ∧ (((true = true) ∧ (true = true)) ∧ (((true = true) ∧ (true = true)) ∧ ((((true = true) ∧ (true = true)) ∧ (((true = true) ∧ (true = true)) ∧ (((true = true) ∧ (true = true)) ∧ (((true = true) ∧ (true = true)) ∧ (((true = true) ∧ (true = true)) ∧ (((true = true) ∧ (true = true)) ∧ (W.Sh2))))))) ∧ True))))) ∧
     (Φ Ex.ret (St.mk [(0, (W.dSe ex l)), (1, (AV.i who)), (2, (AV.i seq)), (6, (AV.ptr 6 [])), (7, (AV.v (Value.bool false))), (8, (AV.i (191 : Int))), (9, (AV.i (((bsI (W.cW who) (W.toLS (W.dSe ex l))) : Nat) : Int))), (10, (AV.sb (bsB (W.cW who) (W.toLS (W.dSe ex l))))), (17, (AV.v (Value.bool false))), (31, (AV.v (Value.bool false))), (41, (AV.v (Value.bool true)))] [(6, (Blk.c (W.rpZ)))] [6])))) ∧
    ((decide (seq < (W.Ses.seq (W.seAt l (bsI (W.cW who) (W.toLS (W.dSe ex l))))))) = false →
    (((seq == (0 : Int)) = true →
     ((((true = true) ∧ (true = true)) ∧ (((true = true) ∧ (true = true)) ∧ (((true = true) ∧ (true = true)) ∧ (((true = true) ∧ (true = true)) ∧ ((((true = true) ∧ (true = true)) ∧ (((true = true) ∧ (true = true)) ∧ (((true = true) ∧ (true = true)) ∧ (((true = true) ∧ (true = true)) ∧ (((true = true) ∧ (true = true)) ∧ (((true = true) ∧ (true = true)) ∧ (W.Sh2))))))) ∧ True))))) ∧
      (Φ Ex.ret (St.mk [(0, (W.dSe ex l)), (1, (AV.i who)), (2, (AV.i seq)), (6, (AV.ptr 6 [])), (7, (AV.v (Value.bool false))), (8, (AV.i (191 : Int))), (9, (AV.i (((bsI (W.cW who) (W.toLS (W.dSe ex l))) : Nat) : Int))), (10, (AV.sb (bsB (W.cW who) (W.toLS (W.dSe ex l))))), (17, (AV.v (Value.bool false))), (31, (AV.v (Value.bool false))), (41, (AV.v (Value.bool true)))] [(6, (Blk.c (W.rpZ)))] [6])))) ∧
     ((seq == (0 : Int)) = false →
     ((((0 : Int) ≤ (((bsI (W.cW who) (W.toLS (W.dSe ex l))) : Nat) : Int)) ∧ ((((bsI (W.cW who) (W.toLS (W.dSe ex l))) : Nat) : Int) < (((List.length l) : Nat) : Int))) ∧
      ((((true = true) ∧ (true = true)) ∧ (((true = true) ∧ (true = true)) ∧ (((true = true) ∧ (true = true)) ∧ (((true = true) ∧ (true = true)) ∧ ((((true = true) ∧ (true = true)) ∧ (((true = true) ∧ (true = true)) ∧ (((true = true) ∧ (true = true)) ∧ (((true = true) ∧ (true = true)) ∧ (((true = true) ∧ (true = true)) ∧ (((true = true) ∧ (true = true)) ∧ (W.Sh2))))))) ∧ True))))) ∧
      (Φ Ex.ret (St.mk [(0, (W.dSe ex l)), (1, (AV.i who)), (2, (AV.i seq)), (6, (AV.ptr 6 [])), (7, (AV.v (Value.bool true))), (8, (AV.i (0 : Int))), (9, (AV.i (((bsI (W.cW who) (W.toLS (W.dSe ex l))) : Nat) : Int))), (10, (AV.sb (bsB (W.cW who) (W.toLS (W.dSe ex l))))), (17, (AV.v (Value.bool false))), (31, (AV.v (Value.bool false))), (41, (AV.v (Value.bool false)))] [(6, (Blk.c (W.rpA (W.Ses.last (W.seAt l (bsI (W.cW who) (W.toLS (W.dSe ex l))))))))] [6])))))))))))))))))))) := by kernel_rfl
theorem sdone_A (ex : Bool) (l : List Ses) (who seq : Int) (r : Rp) (K : Nat) (Φ : Ex → St → Prop) :
  (Holds C P 44 [] K Φ (vc C w_sdone b_sdone [] (start [dSe ex l, .i who, .i seq, rpA r] []) lf)) =
  (Fun W.C W.P 44 [(W.dSe ex l), (AV.i who)] [] (AV.tup [(AV.i (((bsI (W.cW who) (W.toLS (W.dSe ex l))) : Nat) : Int)), (AV.sb (bsB (W.cW who) (W.toLS (W.dSe ex l))))]) [] ∧
 (((! (bsB (W.cW who) (W.toLS (W.dSe ex l)))) = true →
 (Φ Ex.ret (St.mk [(0, (W.dSe ex l)), (1, (AV.i who)), (2, (AV.i seq)), (3, (W.rpA r)), (7, (AV.ptr 7 [])), (8, (W.dSe ex l)), (9, (AV.i (190 : Int))), (10, (AV.i (((bsI (W.cW who) (W.toLS (W.dSe ex l))) : Nat) : Int))), (11, (AV.sb (bsB (W.cW who) (W.toLS (W.dSe ex l))))), (29, (AV.v (Value.bool true)))] [(7, (Blk.c (W.rpA r)))] [7]))) ∧
 ((! (bsB (W.cW who) (W.toLS (W.dSe ex l)))) = false →
 ((((0 : Int) ≤ (((bsI (W.cW who) (W.toLS (W.dSe ex l))) : Nat) : Int)) ∧ ((((bsI (W.cW who) (W.toLS (W.dSe ex l))) : Nat) : Int) < (((List.length l) : Nat) : Int))) ∧
  ((I64 ((W.Ses.seq (W.seAt l (bsI (W.cW who) (W.toLS (W.dSe ex l))))) + (1 : Int))) ∧
  (((seq != ((W.Ses.seq (W.seAt l (bsI (W.cW who) (W.toLS (W.dSe ex l))))) + (1 : Int))) = true →
  (Φ Ex.ret (St.mk [(0, (W.dSe ex l)), (1, (AV.i who)), (2, (AV.i seq)), (3, (W.rpA r)), (7, (AV.ptr 7 [])), (8, (W.dSe ex l)), (9, (AV.i (190 : Int))), (10, (AV.i (((bsI (W.cW who) (W.toLS (W.dSe ex l))) : Nat) : Int))), (11, (AV.sb (bsB (W.cW who) (W.toLS (W.dSe ex l))))), (29, (AV.v (Value.bool true)))] [(7, (Blk.c (W.rpA r)))] [7]))) ∧
  ((seq != ((W.Ses.seq (W.seAt l (bsI (W.cW who) (W.toLS (W.dSe ex l))))) + (1 : Int))) = false →
  (((decide (seq > (1000000000 : Int))) = true →
   (Φ Ex.ret (St.mk [(0, (W.dSe ex l)), (1, (AV.i who)), (2, (AV.i seq)), (3, (W.rpA r)), (7, (AV.ptr 7 [])), (8, (W.dSe ex l)), (9, (AV.i (2 : Int))), (10, (AV.i (((bsI (W.cW who) (W.toLS (W.dSe ex l))) : Nat) : Int))), (11, (AV.sb (bsB (W.cW who) (W.toLS (W.dSe ex l))))), (29, (AV.v (Value.bool false))), (32, (AV.v (Value.bool true)))] [(7, (Blk.c (W.rpA r)))] [7]))) ∧
   ((decide (seq > (1000000000 : Int))) = false →
   (Fun W.C W.P 46 [(W.dSe ex l)] [] (AV.sl 0 [] 0 (List.length l) (List.length l) false 14) [(0, (Blk.c (AV.arr (List.length l) 14 (W.rowS l))))] ∧
    ((((0 : Int) ≤ (((bsI (W.cW who) (W.toLS (W.dSe ex l))) : Nat) : Int)) ∧ ((((bsI (W.cW who) (W.toLS (W.dSe ex l))) : Nat) : Int) < (((List.length l) : Nat) : Int))) ∧
    ((((true = true) ∧ (true = true)) ∧ (((true = true) ∧ (true = true)) ∧ ((((true = true) ∧ (true = true)) ∧ (((true = true) ∧ (true = true)) ∧ (((true = true) ∧ (true = true)) ∧ (((true = true) ∧ (true = true)) ∧ ((((true = true) ∧ (true = true)) ∧ (((true = true) ∧ (true = true)) ∧ (((true = true) ∧ (true = true)) ∧ (((true = true) ∧ (true = true)) ∧ (((true = true) ∧ (true = true)) ∧ (((true = true) ∧ (true = true)) ∧ (W.Sh2))))))) ∧ True))))) ∧ True))) ∧
    (Φ Ex.ret (St.mk [(0, (AV.sl 35 [] 0 (List.length l) (List.length l) false 14)), (1, (AV.i who)), (2, (AV.i seq)), (3, (W.rpA r)), (7, (AV.ptr 7 [])), (8, (AV.sl 35 [] 0 (List.length l) (List.length l) false 14)), (9, (AV.i (0 : Int))), (10, (AV.i (((bsI (W.cW who) (W.toLS (W.dSe ex l))) : Nat) : Int))), (11, (AV.sb (bsB (W.cW who) (W.toLS (W.dSe ex l))))), (29, (AV.v (Value.bool false))), (32, (AV.v (Value.bool false)))] [(7, (Blk.c (W.rpA r))), (35, (Blk.c (AV.arr (List.length l) 14 (fun (j : Nat) => (if (j = (0 + (bsI (W.cW who) (W.toLS (W.dSe ex l))))) then (AV.st [(AV.i who), (AV.i seq), (W.rpA r)]) else (W.seA (W.seAt l j)))))))] [35, 7])))))))))))))) := by kernel_rfl
theorem send_A (ex : Bool) (l : List Ses) (who : Int) (K : Nat) (Φ : Ex → St → Prop) :
  (Holds C P 26 [] K Φ (vc C w_send b_send [] (start [dSe ex l, .i who] []) lf)) =
  (Fun W.C W.P 44 [(W.dSe ex l), (AV.i who)] [] (AV.tup [(AV.i (((bsI (W.cW who) (W.toLS (W.dSe ex l))) : Nat) : Int)), (AV.sb (bsB (W.cW who) (W.toLS (W.dSe ex l))))]) [] ∧
 (((! (bsB (W.cW who) (W.toLS (W.dSe ex l)))) = true →
 (Φ Ex.ret (St.mk [(0, (W.dSe ex l)), (1, (AV.i who)), (4, (W.dSe ex l)), (5, (AV.i (190 : Int))), (6, (AV.i (((bsI (W.cW who) (W.toLS (W.dSe ex l))) : Nat) : Int))), (7, (AV.sb (bsB (W.cW who) (W.toLS (W.dSe ex l))))), (15, (AV.v (Value.bool true)))] [] []))) ∧
 ((! (bsB (W.cW who) (W.toLS (W.dSe ex l)))) = false →
 ((((0 : Int) ≤ (0 : Int)) ∧ (((0 : Int) ≤ (((bsI (W.cW who) (W.toLS (W.dSe ex l))) : Nat) : Int)) ∧ ((((bsI (W.cW who) (W.toLS (W.dSe ex l))) : Nat) : Int) ≤ (((List.length l) : Nat) : Int)))) ∧
  ((I64 ((((bsI (W.cW who) (W.toLS (W.dSe ex l))) + 1) : Nat) : Int)) ∧
  ((((0 : Int) ≤ ((((bsI (W.cW who) (W.toLS (W.dSe ex l))) + 1) : Nat) : Int)) ∧ ((((((bsI (W.cW who) (W.toLS (W.dSe ex l))) + 1) : Nat) : Int) ≤ (((List.length l) : Nat) : Int)) ∧ ((((List.length l) : Nat) : Int) ≤ (((List.length l) : Nat) : Int)))) ∧
  (Fun W.C W.P 51 [(AV.dat 2 false 1 (fun (i : Nat) => (nthD [(AV.dat (bsI (W.cW who) (W.toLS (W.dSe ex l))) Bool.false 14 (fun (i1 : Nat) => (W.seA (W.seAt l (0 + i1))))), (AV.dat ((List.length l) - ((bsI (W.cW who) (W.toLS (W.dSe ex l))) + 1)) ex 14 (fun (i1 : Nat) => (W.seA (W.seAt l (((bsI (W.cW who) (W.toLS (W.dSe ex l))) + 1) + i1)))))] (0 + i) (AV.v (Value.tuple (List.toArray []))))))] [] (AV.sl 0 [] 0 (List.length ((W.toLS (AV.dat (bsI (W.cW who) (W.toLS (W.dSe ex l))) Bool.false 14 (fun (i : Nat) => (W.seA (W.seAt l (0 + i)))))) ++ (W.toLS (AV.dat ((List.length l) - ((bsI (W.cW who) (W.toLS (W.dSe ex l))) + 1)) ex 14 (fun (i : Nat) => (W.seA (W.seAt l (((bsI (W.cW who) (W.toLS (W.dSe ex l))) + 1) + i)))))))) (List.length ((W.toLS (AV.dat (bsI (W.cW who) (W.toLS (W.dSe ex l))) Bool.false 14 (fun (i : Nat) => (W.seA (W.seAt l (0 + i)))))) ++ (W.toLS (AV.dat ((List.length l) - ((bsI (W.cW who) (W.toLS (W.dSe ex l))) + 1)) ex 14 (fun (i : Nat) => (W.seA (W.seAt l (((bsI (W.cW who) (W.toLS (W.dSe ex l))) + 1) + i)))))))) false 14) [(0, (Blk.c (AV.arr (List.length ((W.toLS (AV.dat (bsI (W.cW who) (W.toLS (W.dSe ex l))) Bool.false 14 (fun (i : Nat) => (W.seA (W.seAt l (0 + i)))))) ++ (W.toLS (AV.dat ((List.length l) - ((bsI (W.cW who) (W.toLS (W.dSe ex l))) + 1)) ex 14 (fun (i : Nat) => (W.seA (W.seAt l (((bsI (W.cW who) (W.toLS (W.dSe ex l))) + 1) + i)))))))) 14 (W.rowS ((W.toLS (AV.dat (bsI (W.cW who) (W.toLS (W.dSe ex l))) Bool.false 14 (fun (i : Nat) => (W.seA (W.seAt l (0 + i)))))) ++ (W.toLS (AV.dat ((List.length l) - ((bsI (W.cW who) (W.toLS (W.dSe ex l))) + 1)) ex 14 (fun (i : Nat) => (W.seA (W.seAt l (((bsI (W.cW who) (W.toLS (W.dSe ex l))) + 1) + i)))))))))))] ∧
  (Φ Ex.ret (St.mk [(0, (W.dSe ex l)), (1, (AV.i who)), (4, (AV.sl 25 [] 0 (List.length ((W.toLS (AV.dat (bsI (W.cW who) (W.toLS (W.dSe ex l))) Bool.false 14 (fun (i : Nat) => (W.seA (W.seAt l (0 + i)))))) ++ (W.toLS (AV.dat ((List.length l) - ((bsI (W.cW who) (W.toLS (W.dSe ex l))) + 1)) ex 14 (fun (i : Nat) => (W.seA (W.seAt l (((bsI (W.cW who) (W.toLS (W.dSe ex l))) + 1) + i)))))))) (List.length ((W.toLS (AV.dat (bsI (W.cW who) (W.toLS (W.dSe ex l))) Bool.false 14 (fun (i : Nat) => (W.seA (W.seAt l (0 + i)))))) ++ (W.toLS (AV.dat ((List.length l) - ((bsI (W.cW who) (W.toLS (W.dSe ex l))) + 1)) ex 14 (fun (i : Nat) => (W.seA (W.seAt l (((bsI (W.cW who) (W.toLS (W.dSe ex l))) + 1) + i)))))))) false 14)), (5, (AV.i (0 : Int))), (6, (AV.i (((bsI (W.cW who) (W.toLS (W.dSe ex l))) : Nat) : Int))), (7, (AV.sb (bsB (W.cW who) (W.toLS (W.dSe ex l))))), (15, (AV.v (Value.bool false)))] [(25, (Blk.c (AV.arr (List.length ((W.toLS (AV.dat (bsI (W.cW who) (W.toLS (W.dSe ex l))) Bool.false 14 (fun (i : Nat) => (W.seA (W.seAt l (0 + i)))))) ++ (W.toLS (AV.dat ((List.length l) - ((bsI (W.cW who) (W.toLS (W.dSe ex l))) + 1)) ex 14 (fun (i : Nat) => (W.seA (W.seAt l (((bsI (W.cW who) (W.toLS (W.dSe ex l))) + 1) + i)))))))) 14 (W.rowS ((W.toLS (AV.dat (bsI (W.cW who) (W.toLS (W.dSe ex l))) Bool.false 14 (fun (i : Nat) => (W.seA (W.seAt l (0 + i)))))) ++ (W.toLS (AV.dat ((List.length l) - ((bsI (W.cW who) (W.toLS (W.dSe ex l))) + 1)) ex 14 (fun (i : Nat) => (W.seA (W.seAt l (((bsI (W.cW who) (W.toLS (W.dSe ex l))) + 1) + i)))))))))))] [25, 24]))))))))) := by kernel_rfl

/-- What is valid. -/
def VS (l : List Ses) : Prop := Srt l ∧ (∀ s, s ∈ l → 0 ≤ s.who ∧ 0 ≤ s.seq ∧ s.seq ≤ 1000000000 ∧ (s.seq = 0 → s.last = rp0) ∧ RpOK s.last) ∧ l.length ≤ 8
theorem sm_rpZ : sim (fun _ => none) rpZ (rpA rp0) :=
  ⟨sm_int rfl, sm_int rfl, .inr ⟨rfl, by simp, .inl rfl, fun i hi => absurd hi (Nat.not_lt_zero i)⟩, .inr ⟨rfl, by simp, .inl rfl, fun i hi => absurd hi (Nat.not_lt_zero i)⟩,
    .inr ⟨sm_int rfl, sm_int rfl, sm_int rfl, .inr ⟨rfl, by simp, .inl rfl, fun i hi => absurd hi (Nat.not_lt_zero i)⟩, .inr ⟨rfl, by simp, .inl rfl, fun i hi => absurd hi (Nat.not_lt_zero i)⟩, .inr ⟨rfl, by simp, .inl rfl, fun i hi => absurd hi (Nat.not_lt_zero i)⟩, sm_int rfl, sm_int rfl, trivial⟩, trivial⟩
theorem sm_rpZ' {m : Nat → Option Nat} : sim m rpZ (rpA rp0) :=
  ⟨sm_int rfl, sm_int rfl, .inr ⟨rfl, by simp, .inl rfl, fun i hi => absurd hi (Nat.not_lt_zero i)⟩, .inr ⟨rfl, by simp, .inl rfl, fun i hi => absurd hi (Nat.not_lt_zero i)⟩,
    .inr ⟨sm_int rfl, sm_int rfl, sm_int rfl, .inr ⟨rfl, by simp, .inl rfl, fun i hi => absurd hi (Nat.not_lt_zero i)⟩, .inr ⟨rfl, by simp, .inl rfl, fun i hi => absurd hi (Nat.not_lt_zero i)⟩, .inr ⟨rfl, by simp, .inl rfl, fun i hi => absurd hi (Nat.not_lt_zero i)⟩, sm_int rfl, sm_int rfl, trivial⟩, trivial⟩
theorem sm_seN {m : Nat → Option Nat} (w : Int) : sim m (seN w) (seA ⟨w, 0, rp0⟩) := ⟨sm_int rfl, sm_int rfl, .inr sm_rpZ', trivial⟩
theorem rp0_ok : RpOK rp0 := by simp [RpOK, NdOK, rp0]
theorem VS.len {l : List Ses} (h : VS l) : l.length < 2 ^ 36 := by have := h.2.2; omega
theorem VS.at {l : List Ses} (h : VS l) {i : Nat} (hi : i < l.length) : 0 ≤ (seAt l i).who ∧ 0 ≤ (seAt l i).seq ∧ (seAt l i).seq ≤ 1000000000 ∧ ((seAt l i).seq = 0 → (seAt l i).last = rp0) ∧ RpOK (seAt l i).last := by
  rw [seAt_lt hi]; exact h.2.1 _ (List.getElem_mem hi)
theorem VS.has {l : List Ses} (h : VS l) {who : Int} (hf : hasS l who = true) : posS l who < l.length ∧ (atS l who).who = who := by
  have := (bs_spec (mono_W h.1 who)).2.2.2.1 hf
  exact ⟨this.1, cmpI_eq.1 this.2⟩
theorem VS.pos_le {l : List Ses} (h : VS l) (who : Int) : posS l who ≤ l.length := (bs_spec (mono_W h.1 who)).1
theorem okS_iff {l : List Ses} {i : Nat} : okS l i = true ↔ prevW l i < (seAt l i).who ∧ 0 ≤ (seAt l i).seq ∧ (seAt l i).seq ≤ 1000000000 ∧ ((seAt l i).seq = 0 → (seAt l i).last = rp0) := by
  unfold okS prevW
  simp only [Bool.and_eq_true, Bool.or_eq_true, decide_eq_true_eq, eqR_iff, ne_eq, Classical.or_iff_not_imp_left, Classical.not_not, and_assoc]
theorem vB_no {l : List Ses} {i : Nat} (hi : i < l.length) (h : ¬ okS l i = true) : vB l = false := by
  unfold vB
  rw [Bool.and_eq_false_iff]
  refine .inl (Bool.eq_false_iff.2 fun ha => h ?_)
  exact List.all_eq_true.1 ha i (List.mem_range.2 hi)
theorem vB_yes {l : List Ses} (h : ∀ k, k < l.length → okS l k = true) : vB l = decide (l.length ≤ 8) := by
  unfold vB
  rw [List.all_eq_true.2 fun k hk => h k (List.mem_range.1 hk)]; rfl
theorem valid_fun (ex : Bool) (l : List Ses) (hn : l.length < 2 ^ 40) (hr : ∀ s, s ∈ l → RpOK s.last) : Fun C P F_valid [dSe ex l] [] (.sb (vB l)) [] := by
  refine in_valid (W := w_valid) rfl 0 (by simp) rfl (fun id h => absurd rfl h) ?_
  refine of_eq (valid_A ex l 0 _) ?_
  refine loop_inv (W := w_valid) ctx mixed ok_valid_0 (I_v ex l) (fun i => i ≤ l.length ∧ ∀ k, k < i → okS l k = true) (fun i => l.length - i) 0 ⟨Nat.zero_le _, fun k hk => absurd hk (Nat.not_lt_zero k)⟩ ?_ fun i hi => ?_
  · exact ent_of [] rfl (tm_cons rfl (sm_same rfl) (tm_cons rfl (sm_same rfl) (tm_cons rfl (sm_same rfl) (tm_cons rfl (sm_same rfl) (tm_cons rfl (sm_same rfl) tm_nil))))) hp_nil
  obtain ⟨hi, hz⟩ := hi
  refine of_eq (valid_L0 ex l i 0 _) ⟨fun h => ?_, fun h => ?_⟩
  · have h := of_decide_eq_true h
    have hlt : i < l.length := by omega
    refine ⟨(by first | omega | decide | (unfold I64; omega)), shS_t, fun h1 => post_tmp rfl (sm_b (congrArg Value.bool (vB_no hlt fun ho => ?_).symm)), fun h1 => ⟨fun h2 => post_tmp rfl (sm_b (congrArg Value.bool (vB_no hlt fun ho => ?_).symm)), fun h2 => ⟨fun h3 => post_tmp rfl (sm_b (congrArg Value.bool (vB_no hlt fun ho => ?_).symm)), fun h3 => ⟨fun h4 => ?_, fun h4 => ?_⟩⟩⟩⟩
    · have := (okS_iff.1 ho).1; have := of_decide_eq_true h1; omega
    · have := (okS_iff.1 ho).2.1; have := of_decide_eq_true h2; omega
    · have := (okS_iff.1 ho).2.2.1; have := of_decide_eq_true h3; omega
    · have h1 := of_decide_eq_false h1
      have h2 := of_decide_eq_false h2
      have h3 := of_decide_eq_false h3
      rw [beq_dec] at h4
      have h4 := of_decide_eq_true h4
      rw [toRp_A]
      have hro : RpOK (seAt l i).last := by rw [seAt_lt hlt]; exact hr _ (List.getElem_mem hlt)
      refine ⟨(sameR_fun _ rp0 hro).sim ⟨sm_same rfl, .inr sm_rpZ', trivial⟩ trivial, trivial, fun h5 => post_tmp rfl (sm_b (congrArg Value.bool (vB_no hlt fun ho => ?_).symm)), fun h5 => ⟨(by first | omega | decide | (unfold I64; omega)), round_end (i + 1) ⟨by omega, fun k hk => ?_⟩ (ent_of [] rfl (tm_cons rfl (sm_same rfl) (tm_cons rfl (sm_same rfl) (tm_cons rfl (sm_same rfl) (tm_cons rfl (sm_same rfl) (tm_cons rfl (sm_same rfl) tm_nil))))) hp_nil) (by dsimp only; omega)⟩⟩
      · have := (okS_iff.1 ho).2.2.2 h4
        have := bnt h5
        rw [(okS_iff.1 ho).2.2.2 h4, eqR_iff.2 rfl] at this; cases this
      · by_cases e : k = i
        · rw [e]; exact okS_iff.2 ⟨by omega, by omega, by omega, fun _ => eqR_iff.1 (bnf h5)⟩
        · exact hz k (by omega)
    · have h1 := of_decide_eq_false h1
      have h2 := of_decide_eq_false h2
      have h3 := of_decide_eq_false h3
      rw [beq_dec] at h4
      have h4 := of_decide_eq_false h4
      refine ⟨(by first | omega | decide | (unfold I64; omega)), round_end (i + 1) ⟨by omega, fun k hk => ?_⟩ (ent_of [] rfl (tm_cons rfl (sm_same rfl) (tm_cons rfl (sm_same rfl) (tm_cons rfl (sm_same rfl) (tm_cons rfl (sm_same rfl) (tm_cons rfl (sm_same rfl) tm_nil))))) hp_nil) (by dsimp only; omega)⟩
      by_cases e : k = i
      · rw [e]; exact okS_iff.2 ⟨by omega, by omega, by omega, fun e => absurd e h4⟩
      · exact hz k (by omega)
  · have h := of_decide_eq_false h
    obtain rfl : i = l.length := by omega
    refine post_tmp rfl (sm_sb ?_)
    rw [vB_yes hz]
    exact decide_eq_decide.2 (by omega)
theorem insF_row {l : List Ses} {i k : Nat} {w : Int} (hi : i ≤ l.length) (hk : k < l.length + 1) {m : Nat → Option Nat} : insF i (seN w) (rowS l) k = seA (seAt (l.insertIdx i ⟨w, 0, rp0⟩) k) ∨ sim m (insF i (seN w) (rowS l) k) (seA (seAt (l.insertIdx i ⟨w, 0, rp0⟩) k)) := by
  unfold insF
  rw [seAt_lt (l := l.insertIdx i ⟨w, 0, rp0⟩) (by rw [List.length_insertIdx, if_pos hi]; exact hk), List.getElem_insertIdx]
  by_cases h1 : k < i
  · rw [if_pos h1, dif_pos h1]
    exact .inl (by show seA (seAt l k) = _; rw [seAt_lt (by omega)])
  · rw [if_neg h1, dif_neg h1]
    by_cases h2 : k = i
    · rw [if_pos h2, dif_pos h2]; exact .inr (sm_seN w)
    · rw [if_neg h2, dif_neg h2]
      exact .inl (by show seA (seAt l (k - 1)) = _; rw [seAt_lt (by omega)])
theorem sm_datr {m : Nat → Option Nat} {n n' e : Nat} {ex ex' : Bool} {f g : Nat → AV} (hn : n = n') (hx : ex' = true → ex = true) (h : ∀ i, i < n → f i = g i ∨ sim (fun _ => none) (f i) (g i)) : simR m (.dat n ex e f) (.dat n' ex' e g) := .inr ⟨hn, hx, .inr rfl, h⟩
theorem sbegin_fun {l : List Ses} (ex : Bool) (h : VS l) (who : Int) : Fun C P F_sbegin [dSe ex l, .i who] [] (tBeg l who) [] := by
  refine in_sbegin (W := w_sbegin) rfl 0 (by simp) rfl (fun id h => absurd rfl h) ?_
  refine of_eq (sbegin_A ex l who 0 _) ?_
  rw [toSeL]
  have no : begE l who ≠ 0 → begL l who = l := fun hn => by unfold begL; rw [if_neg hn]
  refine ⟨at_fun ex l who (by have := h.2.2; omega) h.1, fun h1 => ?_, fun h1 => ⟨fun h2 => ?_, fun h2 => ⟨fun h3 => ?_, fun h3 => ?_⟩⟩⟩
  · have e : begE l who = 1 := by unfold begE; rw [if_pos (of_decide_eq_true h1)]
    rw [tBeg, no (by rw [e]; decide), e]
    exact post_tup rfl rfl (sm_dat (by simp) fun i hi => rfl) (sm_int rfl) rfl
  · have e : begE l who = 190 := by unfold begE hasS; rw [if_neg (of_decide_eq_false h1), if_pos h2]
    rw [tBeg, no (by rw [e]; decide), e]
    exact post_tup rfl rfl (sm_dat (by simp) fun i hi => rfl) (sm_int rfl) rfl
  · have e : begE l who = 2 := by unfold begE hasS; rw [if_neg (of_decide_eq_false h1), h2, if_neg (by simp), if_pos (by simp at h3; omega)]
    rw [tBeg, no (by rw [e]; decide), e]
    exact post_tup rfl rfl (sm_dat (by simp) fun i hi => rfl) (sm_int rfl) rfl
  · have e : begE l who = 0 := by unfold begE hasS; rw [if_neg (of_decide_eq_false h1), h2, if_neg (by simp), if_neg (by simp at h3; omega)]
    have e2 : begL l who = l.insertIdx (posS l who) ⟨who, 0, rp0⟩ := by unfold begL; rw [if_pos e]
    have hp := h.pos_le who
    rw [tBeg, e2, e]
    refine ⟨cloneS_fun ex l (by have := h.2.2; omega), ?_, ?_⟩
    · exact (insS_fun l who (posS l who) hp h.len).sim ⟨.inr ⟨rfl, rfl, rfl, rfl, Nat.le_refl _, Nat.le_refl _, by simp, rfl⟩, sm_same rfl, .inr ⟨rfl, rfl, rfl, rfl, Nat.le_refl _, Nat.le_refl _, by simp, rfl⟩, trivial⟩
        ⟨rfl, sm_same rfl, rfl, sm_row rfl rfl rfl fun i x hx => by match i, hx with | 0, rfl => rfl, trivial⟩
    · refine post_frz [32] (post_tup rfl rfl (sm_datr (by rw [List.length_insertIdx, if_pos hp]) (by simp) fun k hk => ?_) (sm_int rfl) rfl)
      have := insF_row (w := who) hp hk (m := fun _ => none)
      rw [Nat.zero_add]
      exact this

section
variable {N : Nat} {S : St}
/-- A cell and two slots. -/
theorem post_ctt {a u v t id : Nat} {x r : AV} {y q : AV} {z p : AV} (h : look S.tm a = some (.ptr id [])) (hb : look S.hp id = some (.c x)) (hs : simR (look [(id, 0)]) x r) (hu : look S.tm u = some y) (hq : simR (look [(id, 0)]) y q) (hv : look S.tm v = some z) (hp : simR (look [(id, 0)]) z p)
    (hf : fitsT C t r = true) (hau : Nat.beq a u = false) (hav : Nat.beq a v = false) (huv : Nat.beq u v = false) (hno : AV.noid (.tup [r, q, p]) = true) (hnt : noTups [r, q, p] = true) : FunPost C N 0 [.cell a t, .tmp u, .tmp v] (.tup [r, q, p]) [] .ret S := by
  refine funPost_of (r' := .tup [r, q, p]) (S2 := { tm := [(a, .ptr 0 []), (u, q), (v, p)], hp := [(0, .c r)], seen := [0] }) (by simp) (ent_of [(id, 0)] ?_ (tm_cons h (sm_ptr (by simp [look, Nat.beq_refl])) (tm_cons hu hq (tm_cons hv hp tm_nil))) (hp_cons rfl hb hs hp_nil)) ?_ (.inl ⟨hno, rfl⟩) fun id b hb => by cases hb
  · simp only [namesOK, keysOf, distinct, memb, List.map, List.all_cons, List.all_nil, List.range_zero, Nat.beq_refl]
    cases memb S.seen id <;> rfl
  · simp [resAV, resAll, resOne, look, Nat.beq_refl, AV.sub, hf, hau, hav, huv, hnt]
end
theorem sseen_fun {l : List Ses} (ex : Bool) (h : VS l) (who seq : Int) : Fun C P F_sseen [dSe ex l, .i who, .i seq] [] (tSeen l who seq) [] := by
  refine in_sseen (W := w_sseen) rfl 0 (by simp) rfl (fun id h => absurd rfl h) ?_
  refine of_eq (sseen_A ex l who seq 0 _) ?_
  rw [toSeL]
  have done : ∀ {S : St} {id : Nat} {x : AV} {b : AV} {e : Int} (r : Rp) (bb : Bool) (ee : Int), seenE l who seq = ee → seenB l who seq = bb → seenR l who seq = r → look S.tm 6 = some (.ptr id []) → look S.hp id = some (.c x) → simR (look [(id, 0)]) x (rpA r) → look S.tm 7 = some b → simR (look [(id, 0)]) b (.sb bb) → look S.tm 8 = some (.i e) → e = ee →
      FunPost C 59 0 [.cell 6 39, .tmp 7, .tmp 8] (tSeen l who seq) [] .ret S := fun r bb ee e1 e2 e3 h1 h2 h3 h4 h5 h6 h7 => by
    rw [tSeen, e1, e2, e3]
    exact post_ctt h1 h2 h3 h4 h5 h6 (sm_int h7) rfl rfl rfl rfl rfl rfl
  have eB : ∀ {e : Int}, seenE l who seq = e → e ≠ 0 → seenB l who seq = false := fun h1 h2 => by unfold seenB; rw [h1, decide_eq_false h2]; rfl
  have eR : seenB l who seq = false → seenR l who seq = rp0 := fun h1 => by unfold seenR; rw [h1]; rfl
  have hE : ∀ {q : Nat}, q = posS l who → atS l who = seAt l q := fun e => by rw [e]; rfl
  refine ⟨at_fun ex l who (by have := h.2.2; omega) h.1, fun h1 => ⟨shR_t, ?_⟩, fun h1 => ?_⟩
  · have e : seenE l who seq = 190 := by unfold seenE; rw [if_pos (.inl (bnt h1))]
    exact done rp0 false 190 e (eB e (by decide)) (eR (eB e (by decide))) rfl rfl (.inr sm_rpZ') rfl (sm_b rfl) rfl rfl
  have hh : hasS l who = true := bnf h1
  obtain ⟨hp, hw⟩ := h.has hh
  obtain ⟨s, hs⟩ : ∃ s, s = atS l who := ⟨_, rfl⟩
  have hs' : seAt l (bsI (cW who) l) = s := hs.symm
  obtain ⟨_, hq0, hq1, _, _⟩ := h.at hp
  change 0 ≤ (atS l who).seq at hq0
  change (atS l who).seq ≤ _ at hq1
  rw [← hs] at hq0 hq1
  rw [hs']
  have hp' : bsI (cW who) l < l.length := hp
  refine ⟨(by first | omega | decide | (unfold I64; omega)), (by first | omega | decide | (unfold I64; omega)), fun h2 => ⟨shR_t, ?_⟩, fun h2 => ⟨(by first | omega | decide | (unfold I64; omega)), (by first | omega | decide | (unfold I64; omega)), fun h3 => ⟨shR_t, ?_⟩, fun h3 => ⟨(by first | omega | decide | (unfold I64; omega)), fun h4 => ⟨shR_t, ?_⟩, fun h4 => ⟨fun h5 => ⟨shR_t, ?_⟩, fun h5 => ⟨(by first | omega | decide | (unfold I64; omega)), shR_t, ?_⟩⟩⟩⟩⟩
  · have e : seenE l who seq = 190 := by unfold seenE; rw [← hs, if_pos (.inr (of_decide_eq_true h2))]
    exact done rp0 false 190 e (eB e (by decide)) (eR (eB e (by decide))) rfl rfl (.inr sm_rpZ') rfl (sm_b rfl) rfl rfl
  all_goals have h2 := of_decide_eq_false h2
  all_goals rw [beq_dec] at h3
  · have h3 := of_decide_eq_true h3
    have e : seenE l who seq = 0 := by unfold seenE; rw [← hs, hh, if_neg (by simp; omega), if_pos h3]
    have e2 : seenB l who seq = false := by unfold seenB; rw [← hs, decide_eq_false (p := seq ≠ _) (fun hn => hn h3), Bool.and_false]
    exact done rp0 false 0 e e2 (eR e2) rfl rfl (.inr sm_rpZ') rfl (sm_b rfl) rfl rfl
  all_goals have h3 := of_decide_eq_false h3
  · have e : seenE l who seq = 191 := by unfold seenE; rw [← hs, hh, if_neg (by simp; omega), if_neg h3, if_pos (.inl (of_decide_eq_true h4))]
    exact done rp0 false 191 e (eB e (by decide)) (eR (eB e (by decide))) rfl rfl (.inr sm_rpZ') rfl (sm_b rfl) rfl rfl
  all_goals rw [beq_dec] at h5
  · have e : seenE l who seq = 191 := by unfold seenE; rw [← hs, hh, if_neg (by simp; omega), if_neg h3, if_pos (.inr (of_decide_eq_true h5))]
    exact done rp0 false 191 e (eB e (by decide)) (eR (eB e (by decide))) rfl rfl (.inr sm_rpZ') rfl (sm_b rfl) rfl rfl
  · have h4 := of_decide_eq_false h4
    have h5 := of_decide_eq_false h5
    have e : seenE l who seq = 0 := by unfold seenE; rw [← hs, hh, if_neg (by simp; omega), if_neg h3, if_neg (by omega)]
    have e2 : seenB l who seq = true := by unfold seenB; rw [e, ← hs, decide_eq_true (p := seq ≠ _) h3]; rfl
    exact done s.last true 0 e e2 (by unfold seenR; rw [e2, ← hs]; rfl) rfl rfl (sm_same rfl) rfl (sm_b rfl) rfl rfl
theorem seAt_set {l : List Ses} {i k : Nat} {x : Ses} (hk : k < l.length) : seAt (l.set i x) k = if k = i then x else seAt l k := by
  rw [seAt_lt (by rw [List.length_set]; exact hk), List.getElem_set]
  by_cases e : i = k
  · rw [if_pos e, if_pos e.symm]
  · rw [if_neg e, if_neg (Ne.symm e), seAt_lt hk]
theorem sdone_fun {l : List Ses} (ex : Bool) (h : VS l) (who seq : Int) (r : Rp) : Fun C P F_sdone [dSe ex l, .i who, .i seq, rpA r] [] (tDone l who seq r) [] := by
  refine in_sdone (W := w_sdone) rfl 0 (by simp) rfl (fun id h => absurd rfl h) ?_
  refine of_eq (sdone_A ex l who seq r 0 _) ?_
  rw [toSeL]
  have no : doneE l who seq ≠ 0 → doneL l who seq r = l := fun hn => by unfold doneL; rw [if_neg hn]
  refine ⟨at_fun ex l who (by have := h.2.2; omega) h.1, fun h1 => ?_, fun h1 => ?_⟩
  · have e : doneE l who seq = 190 := by unfold doneE; rw [if_pos (.inl (bnt h1))]
    rw [tDone, no (by rw [e]; decide), e]
    exact post_tup rfl rfl (sm_dat (by simp) fun i hi => rfl) (sm_int rfl) rfl
  have hh : hasS l who = true := bnf h1
  obtain ⟨hp, hw⟩ := h.has hh
  obtain ⟨s, hs⟩ : ∃ s, s = atS l who := ⟨_, rfl⟩
  have hs' : seAt l (bsI (cW who) l) = s := hs.symm
  obtain ⟨_, hq0, hq1, _, _⟩ := h.at hp
  change 0 ≤ (atS l who).seq at hq0
  change (atS l who).seq ≤ _ at hq1
  rw [← hs] at hq0 hq1
  rw [hs']
  have hp' : bsI (cW who) l < l.length := hp
  refine ⟨(by first | omega | decide | (unfold I64; omega)), (by first | omega | decide | (unfold I64; omega)), fun h2 => ?_, fun h2 => ⟨fun h3 => ?_, fun h3 => ⟨cloneS_fun ex l (by have := h.2.2; omega), (by first | omega | decide | (unfold I64; omega)), shS_t, ?_⟩⟩⟩
  · have e : doneE l who seq = 190 := by unfold doneE; rw [← hs, if_pos (.inr (by simpa using h2))]
    rw [tDone, no (by rw [e]; decide), e]
    exact post_tup rfl rfl (sm_dat (by simp) fun i hi => rfl) (sm_int rfl) rfl
  · have e : doneE l who seq = 2 := by unfold doneE; rw [← hs, hh, if_neg (by simpa using h2), if_pos (of_decide_eq_true h3)]
    rw [tDone, no (by rw [e]; decide), e]
    exact post_tup rfl rfl (sm_dat (by simp) fun i hi => rfl) (sm_int rfl) rfl
  · have e : doneE l who seq = 0 := by unfold doneE; rw [← hs, hh, if_neg (by simpa using h2), if_neg (of_decide_eq_false h3)]
    have e2 : doneL l who seq r = l.set (posS l who) ⟨who, seq, r⟩ := by unfold doneL; rw [if_pos e]
    rw [tDone, e2, e]
    refine post_frz [35] (post_tup rfl rfl (sm_datr (by rw [List.length_set]) (by simp) fun k hk => .inl ?_) (sm_int rfl) rfl)
    rw [Nat.zero_add, seAt_set hk]
    simp only [Nat.zero_add]
    by_cases e3 : k = bsI (cW who) l
    · rw [if_pos e3, if_pos (show k = posS l who from e3)]
    · rw [if_neg e3, if_neg (show ¬ k = posS l who from e3)]
theorem toLS_take (l : List Ses) {p : Nat} (hp : p ≤ l.length) (ex : Bool) : toLS (.dat p ex 14 (fun i => seA (seAt l (0 + i)))) = l.take p := by
  show (List.range p).map (fun i => toSe (seA (seAt l (0 + i)))) = _
  refine List.ext_getElem (by simp; omega) fun i h1 h2 => ?_
  simp only [List.getElem_map, List.getElem_range, toSe_A, Nat.zero_add, List.getElem_take]
  exact seAt_lt (by simp at h1; omega)
theorem toLS_drop (l : List Ses) (p : Nat) (ex : Bool) : toLS (.dat (l.length - p) ex 14 (fun i => seA (seAt l (p + i)))) = l.drop p := by
  show (List.range (l.length - p)).map (fun i => toSe (seA (seAt l (p + i)))) = _
  refine List.ext_getElem (by simp) fun i h1 h2 => ?_
  simp only [List.getElem_map, List.getElem_range, toSe_A, List.getElem_drop]
  exact seAt_lt (by simp at h1; omega)
theorem send_fun {l : List Ses} (ex : Bool) (h : VS l) (who : Int) : Fun C P F_send [dSe ex l, .i who] [] (tEnd l who) [] := by
  refine in_send (W := w_send) rfl 0 (by simp) rfl (fun id h => absurd rfl h) ?_
  refine of_eq (send_A ex l who 0 _) ?_
  rw [toSeL]
  refine ⟨at_fun ex l who (by have := h.2.2; omega) h.1, fun h1 => ?_, fun h1 => ?_⟩
  · have hh : hasS l who = false := bnt h1
    have e : endE l who = 190 := by unfold endE; rw [hh]; rfl
    have e2 : endL l who = l := by unfold endL; rw [hh]; rfl
    rw [tEnd, e, e2]
    exact post_tup rfl rfl (sm_dat (by simp) fun i hi => rfl) (sm_int rfl) rfl
  have hh : hasS l who = true := bnf h1
  obtain ⟨hp, hw⟩ := h.has hh
  have hp' : bsI (cW who) l < l.length := hp
  have e : endE l who = 0 := by unfold endE; rw [hh]; rfl
  have e2 : endL l who = l.take (bsI (cW who) l) ++ l.drop (bsI (cW who) l + 1) := by unfold endL; rw [hh, if_pos rfl]; exact List.eraseIdx_eq_take_drop_succ _ _
  rw [tEnd, e, e2, toLS_take l (by omega), toLS_drop]
  have h8 := h.2.2
  have hlen : (l.take (bsI (cW who) l) ++ l.drop (bsI (cW who) l + 1)).length < 2 ^ 38 := by simp; omega
  refine ⟨(by first | omega | decide | (unfold I64; omega)), (by first | omega | decide | (unfold I64; omega)), (by first | omega | decide | (unfold I64; omega)), ?_, ?_⟩
  · have := concS_fun false (fun i => if i = 0 then false else ex) [l.take (bsI (cW who) l), l.drop (bsI (cW who) l + 1)] (by simp) (by simpa using hlen)
    simp only [List.flatten_cons, List.flatten_nil, List.append_nil] at this
    refine this.sim ⟨sm_datr rfl (by simp) fun i hi => ?_, trivial⟩ trivial
    match i, hi with
    | 0, _ => exact .inr ⟨by simp; omega, id, .inr rfl, fun j hj => .inl (by
        show seA (seAt l (0 + j)) = seA (seAt (l.take (bsI (cW who) l)) j)
        rw [Nat.zero_add, seAt_lt (l := l.take _) (by simp; omega), List.getElem_take, seAt_lt (by omega)])⟩
    | 1, _ => exact .inr ⟨by simp, id, .inr rfl, fun j hj => .inl (by
        show seA (seAt l (bsI (cW who) l + 1 + j)) = seA (seAt (l.drop (bsI (cW who) l + 1)) j)
        rw [seAt_lt (l := l.drop _) (by simp; omega), List.getElem_drop, seAt_lt (by omega)])⟩
  · refine post_frz [25] (post_tup rfl rfl (sm_datr rfl (by simp) fun k hk => .inl ?_) (sm_int rfl) rfl)
    rw [Nat.zero_add]
end Go.Bu.W

