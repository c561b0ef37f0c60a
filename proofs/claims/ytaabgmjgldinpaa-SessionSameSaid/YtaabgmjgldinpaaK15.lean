/- The reference's functions. -/
import Derived.Test.YtaabgmjgldinpaaK14
namespace Go.Bu.W
def rfI (l : List Ses) (who : Int) : Int := if hasS l who then (posS l who : Nat) else -1
def eqS (l m : List Ses) : Bool := decide (l.length = m.length) && (List.range l.length).all fun i => decide ((seAt l i).who = (seAt m i).who) && decide ((seAt l i).seq = (seAt m i).seq) && eqR (seAt l i).last (seAt m i).last
abbrev ltA (l : List Ses) (e : Int) : AV := .st [dSe false l, .i e]
abbrev lkA (r : Rp) (b : Bool) (e : Int) : AV := .st [rpA r, .sb b, .i e]
abbrev rBeg (l : List Ses) (who : Int) : AV := ltA (begL l who) (begE l who)
abbrev rSeen (l : List Ses) (who seq : Int) : AV := lkA (seenR l who seq) (seenB l who seq) (seenE l who seq)
abbrev rDone (l : List Ses) (who seq : Int) (r : Rp) : AV := ltA (doneL l who seq r) (doneE l who seq)
abbrev rEnd (l : List Ses) (who : Int) : AV := ltA (endL l who) (endE l who)
def crSm : List AV → Option (AV × List (Nat × Blk))
  | [x, y] => some (.sb (eqS (toLS x) (toLS y)), [])
  | _ => none
def crN6 (g : Nat) (args : List AV) (H : List (Nat × Blk)) : Option (AV × List (Nat × Blk)) :=
  sel (Nat.beq g F_rfind) (cr2 toLS (fun l w => .i (rfI l w)) args) <| sel (Nat.beq g F_rvalid) (cr1 toLS (fun l => .sb (vB l)) args) <| sel (Nat.beq g F_rbegin) (cr2 toLS rBeg args) <| sel (Nat.beq g F_rseen) (cr3 toLS rSeen args) <|
  sel (Nat.beq g F_rdone) (cr4 toLS rDone args) <| sel (Nat.beq g F_rend) (cr2 toLS rEnd args) <| sel (Nat.beq g F_rsame) (crSm args) <| crN5 g args H
def wayQ (keep : List Nat) (nt : Nat) (cuts : List Nat) : Way := ⟨crN6, byrefI, keep, [], nt, cuts⟩
def w_rfind : Way := wayQ [0, 1, 4, 5, 9, 18] 20 []
def w_rvalid : Way := wayQ [0, 2, 3, 7, 67] 71 []
def w_rseen : Way := wayQ [0, 1, 2, 6, 7, 22, 31, 43] 51 []
def w_rdone : Way := wayQ [0, 1, 2, 3, 7, 8, 9, 10, 25, 29] 47 [7]
def w_rend : Way := wayQ [0, 1, 4, 5, 6, 11] 26 []
def w_rsame : Way := wayQ [0, 1, 4, 5, 10, 14, 54] 55 []
def I_q (ex : Bool) (l : List Ses) (x : Int) (i : Nat) : St := { tm := [(0, dSe ex l), (1, .i x), (5, i64 i)], hp := [], seen := [] }
def I_rv (ex : Bool) (l : List Ses) (i : Nat) : St := { tm := [(0, dSe ex l), (3, i64 i)], hp := [], seen := [] }
def I_rs (ex ex2 : Bool) (l m : List Ses) (i : Nat) : St := { tm := [(0, dSe ex l), (1, dSe ex2 m), (5, i64 i)], hp := [], seen := [] }
def S_rd7 (l : List Ses) (k : Nat) (seq : Int) (r : Rp) : St := { tm := [(2, .i seq), (7, .ptr 7 []), (8, .ptr 8 []), (9, i64 k), (10, .sl 10 [] 0 l.length l.length false 14)], hp := [(7, .c (rpA r)), (8, .c (.st [zD, .i 0])), (10, .c (.arr l.length 14 (rowS l)))], seen := [0, 7, 8, 10] }

theorem rfind_A (ex : Bool) (l : List Ses) (who : Int) (K : Nat) (Φ : Ex → St → Prop) :
  (Holds C P 20 [] K Φ (vc C w_rfind b_rfind [] (start [dSe ex l, .i who] []) lf)) =
  (LoopOK W.C W.P 20 [] K (bodyAt b_rfind [1, 0, 1, 0]) (St.mk [(0, (W.dSe ex l)), (1, (AV.i who)), (4, (AV.i (0 : Int))), (5, (AV.i (0 : Int)))] [] []) (fun (e : Ex) (S' : St) => Holds W.C W.P 20 [] K Φ (after W.C w_rfind b_rfind [1, 0, 1, 0] [] lf e S'))) := by kernel_rfl
noncomputable abbrev bd_rfind_0 : Code := bodyAt (b_rfind) [1, 0, 1, 0]
theorem ok_rfind_0 : codeOK bd_rfind_0 = true := by kernel_rfl
noncomputable abbrev rest_rfind_0 (K : Nat) (Φ : Ex → St → Prop) : Ex → St → Prop := fun e S' => Holds C P 20 [] K Φ (after C w_rfind (b_rfind) [1, 0, 1, 0] [] lf e S')
theorem rfind_L0 (ex : Bool) (l : List Ses) (x : Int) (i : Nat) (K : Nat) (Φ : Ex → St → Prop) :
  (Holds C P 20 [] K (RoundQ C 20 [] K (I_q ex l x) (fun i => i ≤ l.length ∧ ∀ k, k < i → (seAt l k).who ≠ x) (fun i => l.length - i) ((fun i => l.length - i) (i)) (rest_rfind_0 K Φ)) (vc C w_rfind bd_rfind_0 [] ((I_q ex l x) (i)) lf)) =
  (((decide (((i : Nat) : Int) < (((List.length l) : Nat) : Int))) = true →
 ((((0 : Int) ≤ ((i : Nat) : Int)) ∧ (((i : Nat) : Int) < (((List.length l) : Nat) : Int))) ∧
  ((((W.Ses.who (W.seAt l i)) == x) = true →
  (Φ Ex.ret (St.mk [(0, (W.dSe ex l)), (1, (AV.i x)), (4, (AV.i ((i : Nat) : Int))), (5, (AV.i ((i : Nat) : Int))), (9, (AV.v (Value.bool true))), (18, (AV.v (Value.bool true)))] [] []))) ∧
  (((W.Ses.who (W.seAt l i)) == x) = false →
  ((I64 (((i + 1) : Nat) : Int)) ∧
   ((RoundQ C 20 [] K (I_q ex l x) (fun i => i ≤ l.length ∧ ∀ k, k < i → (seAt l k).who ≠ x) (fun i => l.length - i) ((fun i => l.length - i) (i)) (rest_rfind_0 K Φ)) Ex.normal (St.mk [(0, (W.dSe ex l)), (1, (AV.i x)), (5, (AV.i (((i + 1) : Nat) : Int))), (9, (AV.v (Value.bool true))), (18, (AV.v (Value.bool false)))] [] []))))))) ∧
 ((decide (((i : Nat) : Int) < (((List.length l) : Nat) : Int))) = false →
 (Φ Ex.ret (St.mk [(0, (W.dSe ex l)), (1, (AV.i x)), (4, (AV.i (-1 : Int))), (5, (AV.i ((i : Nat) : Int))), (9, (AV.v (Value.bool false)))] [] [])))) := by kernel_rfl
theorem rvalid_A (ex : Bool) (l : List Ses) (K : Nat) (Φ : Ex → St → Prop) :
  (Holds C P 71 [] K Φ (vc C w_rvalid b_rvalid [] (start [dSe ex l] []) lf)) =
  (LoopOK W.C W.P 71 [] K (bodyAt b_rvalid [1, 0, 1, 0]) (St.mk [(0, (W.dSe ex l)), (2, (AV.v (Value.bool false))), (3, (AV.i (0 : Int)))] [] []) (fun (e : Ex) (S' : St) => Holds W.C W.P 71 [] K Φ (after W.C w_rvalid b_rvalid [1, 0, 1, 0] [] lf e S'))) := by kernel_rfl
noncomputable abbrev bd_rvalid_0 : Code := bodyAt (b_rvalid) [1, 0, 1, 0]
theorem ok_rvalid_0 : codeOK bd_rvalid_0 = true := by kernel_rfl
noncomputable abbrev rest_rvalid_0 (K : Nat) (Φ : Ex → St → Prop) : Ex → St → Prop := fun e S' => Holds C P 71 [] K Φ (after C w_rvalid (b_rvalid) [1, 0, 1, 0] [] lf e S')
theorem rvalid_L0 (ex : Bool) (l : List Ses) (i : Nat) (K : Nat) (Φ : Ex → St → Prop) :
  (Holds C P 71 [] K (RoundQ C 71 [] K (I_rv ex l) (fun i => i ≤ l.length ∧ ∀ k, k < i → okS l k = true) (fun i => l.length - i) ((fun i => l.length - i) (i)) (rest_rvalid_0 K Φ)) (vc C w_rvalid bd_rvalid_0 [] ((I_rv ex l) (i)) lf)) =
  (((decide (((i : Nat) : Int) < (((List.length l) : Nat) : Int))) = true →
 ((((0 : Int) ≤ ((i : Nat) : Int)) ∧ (((i : Nat) : Int) < (((List.length l) : Nat) : Int))) ∧
  (((decide ((W.Ses.who (W.seAt l i)) < (0 : Int))) = true →
  (Φ Ex.ret (St.mk [(0, (W.dSe ex l)), (2, (AV.v (Value.bool false))), (3, (AV.i ((i : Nat) : Int))), (7, (AV.v (Value.bool true))), (67, (AV.v (Value.bool true)))] [] []))) ∧
  ((decide ((W.Ses.who (W.seAt l i)) < (0 : Int))) = false →
  (((decide (((i : Nat) : Int) > (0 : Int))) = true →
   ((((0 : Int) ≤ ((i : Nat) : Int)) ∧ (((i : Nat) : Int) < (((List.length l) : Nat) : Int))) ∧
    ((I64 (((i : Nat) : Int) - (1 : Int))) ∧
    ((((0 : Int) ≤ (((i : Nat) : Int) - (1 : Int))) ∧ ((((i : Nat) : Int) - (1 : Int)) < (((List.length l) : Nat) : Int))) ∧
    (((decide ((W.Ses.who (W.seAt l i)) ≤ (W.Ses.who (W.seAt l (Int.toNat (((i : Nat) : Int) - (1 : Int))))))) = true →
    (Φ Ex.ret (St.mk [(0, (W.dSe ex l)), (2, (AV.v (Value.bool false))), (3, (AV.i ((i : Nat) : Int))), (7, (AV.v (Value.bool true))), (67, (AV.v (Value.bool true)))] [] []))) ∧
    ((decide ((W.Ses.who (W.seAt l i)) ≤ (W.Ses.who (W.seAt l (Int.toNat (((i : Nat) : Int) - (1 : Int))))))) = false →
    ((((0 : Int) ≤ ((i : Nat) : Int)) ∧ (((i : Nat) : Int) < (((List.length l) : Nat) : Int))) ∧
     (((decide ((W.Ses.seq (W.seAt l i)) < (0 : Int))) = true →
     (Φ Ex.ret (St.mk [(0, (W.dSe ex l)), (2, (AV.v (Value.bool false))), (3, (AV.i ((i : Nat) : Int))), (7, (AV.v (Value.bool true))), (67, (AV.v (Value.bool true)))] [] []))) ∧
     ((decide ((W.Ses.seq (W.seAt l i)) < (0 : Int))) = false →
     ((((0 : Int) ≤ ((i : Nat) : Int)) ∧ (((i : Nat) : Int) < (((List.length l) : Nat) : Int))) ∧
      (((decide ((W.Ses.seq (W.seAt l i)) > (1000000000 : Int))) = true →
      (Φ Ex.ret (St.mk [(0, (W.dSe ex l)), (2, (AV.v (Value.bool false))), (3, (AV.i ((i : Nat) : Int))), (7, (AV.v (Value.bool true))), (67, (AV.v (Value.bool true)))] [] []))) ∧
      ((decide ((W.Ses.seq (W.seAt l i)) > (1000000000 : Int))) = false →
      ((((0 : Int) ≤ ((i : Nat) : Int)) ∧ (((i : Nat) : Int) < (((List.length l) : Nat) : Int))) ∧
       ((((W.Ses.seq (W.seAt l i)) == (0 : Int)) = true →
       ((((0 : Int) ≤ ((i : Nat) : Int)) ∧ (((i : Nat) : Int) < (((List.length l) : Nat) : Int))) ∧
        (Fun W.C W.P 27 [(W.rpA (W.Ses.last (W.seAt l i))), (W.rpZ)] [] (AV.sb (W.eqR (W.toRp (W.rpA (W.Ses.last (W.seAt l i)))) (W.rp0))) [] ∧
        (True ∧
        (((! (W.eqR (W.toRp (W.rpA (W.Ses.last (W.seAt l i)))) (W.rp0))) = true →
        (Φ Ex.ret (St.mk [(0, (W.dSe ex l)), (2, (AV.v (Value.bool false))), (3, (AV.i ((i : Nat) : Int))), (7, (AV.v (Value.bool true))), (67, (AV.v (Value.bool true)))] [] []))) ∧
        ((! (W.eqR (W.toRp (W.rpA (W.Ses.last (W.seAt l i)))) (W.rp0))) = false →
        ((I64 (((i + 1) : Nat) : Int)) ∧
         ((RoundQ C 71 [] K (I_rv ex l) (fun i => i ≤ l.length ∧ ∀ k, k < i → okS l k = true) (fun i => l.length - i) ((fun i => l.length - i) (i)) (rest_rvalid_0 K Φ)) Ex.normal (St.mk [(0, (W.dSe ex l)), (3, (AV.i (((i + 1) : Nat) : Int))), (7, (AV.v (Value.bool true))), (67, (AV.v (Value.bool false)))] [] []))))))))) ∧
       (((W.Ses.seq (W.seAt l i)) == (0 : Int)) = false →
       ((I64 (((i + 1) : Nat) : Int)) ∧
        ((RoundQ C 71 [] K (I_rv ex l) (fun i => i ≤ l.length ∧ ∀ k, k < i → okS l k = true) (fun i => l.length - i) ((fun i => l.length - i) (i)) (rest_rvalid_0 K Φ)) Ex.normal (St.mk [(0, (W.dSe ex l)), (3, (AV.i (((i + 1) : Nat) : Int))), (7, (AV.v (Value.bool true))), (67, (AV.v (Value.bool false)))] [] [])))))))))))))))))) ∧
   ((decide (((i : Nat) : Int) > (0 : Int))) = false →
   ((((0 : Int) ≤ ((i : Nat) : Int)) ∧ (((i : Nat) : Int) < (((List.length l) : Nat) : Int))) ∧
    (((decide ((W.Ses.seq (W.seAt l i)) < (0 : Int))) = true →
    (Φ Ex.ret (St.mk [(0, (W.dSe ex l)), (2, (AV.v (Value.bool false))), (3, (AV.i ((i : Nat) : Int))), (7, (AV.v (Value.bool true))), (67, (AV.v (Value.bool true)))] [] []))) ∧
    ((decide ((W.Ses.seq (W.seAt l i)) < (0 : Int))) = false →
    ((((0 : Int) ≤ ((i : Nat) : Int)) ∧ (((i : Nat) : Int) < (((List.length l) : Nat) : Int))) ∧
     (((decide ((W.Ses.seq (W.seAt l i)) > (1000000000 : Int))) = true →
     (Φ Ex.ret (St.mk [(0, (W.dSe ex l)), (2, (AV.v (Value.bool false))), (3, (AV.i ((i : Nat) : Int))), (7, (AV.v (Value.bool true))), (67, (AV.v (Value.bool true)))] [] []))) ∧
     ((decide ((W.Ses.seq (W.seAt l i)) > (1000000000 : Int))) = false →
     ((((0 : Int) ≤ ((i : Nat) : Int)) ∧ (((i : Nat) : Int) < (((List.length l) : Nat) : Int))) ∧
      ((((W.Ses.seq (W.seAt l i)) == (0 : Int)) = true →
      ((((0 : Int) ≤ ((i : Nat) : Int)) ∧ (((i : Nat) : Int) < (((List.length l) : Nat) : Int))) ∧
       (Fun W.C W.P 27 [(W.rpA (W.Ses.last (W.seAt l i))), (W.rpZ)] [] (AV.sb (W.eqR (W.toRp (W.rpA (W.Ses.last (W.seAt l i)))) (W.rp0))) [] ∧
       (True ∧
       (((! (W.eqR (W.toRp (W.rpA (W.Ses.last (W.seAt l i)))) (W.rp0))) = true →
       (Φ Ex.ret (St.mk [(0, (W.dSe ex l)), (2, (AV.v (Value.bool false))), (3, (AV.i ((i : Nat) : Int))), (7, (AV.v (Value.bool true))), (67, (AV.v (Value.bool true)))] [] []))) ∧
       ((! (W.eqR (W.toRp (W.rpA (W.Ses.last (W.seAt l i)))) (W.rp0))) = false →
       ((I64 (((i + 1) : Nat) : Int)) ∧
        ((RoundQ C 71 [] K (I_rv ex l) (fun i => i ≤ l.length ∧ ∀ k, k < i → okS l k = true) (fun i => l.length - i) ((fun i => l.length - i) (i)) (rest_rvalid_0 K Φ)) Ex.normal (St.mk [(0, (W.dSe ex l)), (3, (AV.i (((i + 1) : Nat) : Int))), (7, (AV.v (Value.bool true))), (67, (AV.v (Value.bool false)))] [] []))))))))) ∧
      (((W.Ses.seq (W.seAt l i)) == (0 : Int)) = false →
      ((I64 (((i + 1) : Nat) : Int)) ∧
       ((RoundQ C 71 [] K (I_rv ex l) (fun i => i ≤ l.length ∧ ∀ k, k < i → okS l k = true) (fun i => l.length - i) ((fun i => l.length - i) (i)) (rest_rvalid_0 K Φ)) Ex.normal (St.mk [(0, (W.dSe ex l)), (3, (AV.i (((i + 1) : Nat) : Int))), (7, (AV.v (Value.bool true))), (67, (AV.v (Value.bool false)))] [] [])))))))))))))))))) ∧
 ((decide (((i : Nat) : Int) < (((List.length l) : Nat) : Int))) = false →
 (Φ Ex.ret (St.mk [(0, (W.dSe ex l)), (2, (AV.sb (decide ((((List.length l) : Nat) : Int) ≤ (8 : Int))))), (3, (AV.i ((i : Nat) : Int))), (7, (AV.v (Value.bool false)))] [] [])))) := by kernel_rfl
theorem rseen_A (ex : Bool) (l : List Ses) (who seq : Int) (K : Nat) (Φ : Ex → St → Prop) :
  (Holds C P 51 [] K Φ (vc C w_rseen b_rseen [] (start [dSe ex l, .i who, .i seq] []) lf)) =
  (Fun W.C W.P 18 [(W.dSe ex l), (AV.i who)] [] (AV.i (W.rfI (W.toLS (W.dSe ex l)) who)) [] ∧
 (True ∧
 (((decide ((W.rfI (W.toLS (W.dSe ex l)) who) < (0 : Int))) = true →
 ((W.ShK) ∧
  (Φ Ex.ret (St.mk [(0, (W.dSe ex l)), (1, (AV.i who)), (2, (AV.i seq)), (6, (AV.ptr 6 [])), (7, (AV.i (W.rfI (W.toLS (W.dSe ex l)) who))), (22, (AV.v (Value.bool true)))] [(6, (Blk.c (AV.st [(W.rpZ), (AV.v (Value.bool false)), (AV.i (190 : Int))])))] [6])))) ∧
 ((decide ((W.rfI (W.toLS (W.dSe ex l)) who) < (0 : Int))) = false →
 ((((0 : Int) ≤ (W.rfI (W.toLS (W.dSe ex l)) who)) ∧ ((W.rfI (W.toLS (W.dSe ex l)) who) < (((List.length l) : Nat) : Int))) ∧
  ((I64 ((W.Ses.seq (W.seAt l (Int.toNat (W.rfI (W.toLS (W.dSe ex l)) who)))) + (1 : Int))) ∧
  (((decide (seq > ((W.Ses.seq (W.seAt l (Int.toNat (W.rfI (W.toLS (W.dSe ex l)) who)))) + (1 : Int)))) = true →
  ((W.ShK) ∧
   (Φ Ex.ret (St.mk [(0, (W.dSe ex l)), (1, (AV.i who)), (2, (AV.i seq)), (6, (AV.ptr 6 [])), (7, (AV.i (W.rfI (W.toLS (W.dSe ex l)) who))), (22, (AV.v (Value.bool true)))] [(6, (Blk.c (AV.st [(W.rpZ), (AV.v (Value.bool false)), (AV.i (190 : Int))])))] [6])))) ∧
  ((decide (seq > ((W.Ses.seq (W.seAt l (Int.toNat (W.rfI (W.toLS (W.dSe ex l)) who)))) + (1 : Int)))) = false →
  ((((0 : Int) ≤ (W.rfI (W.toLS (W.dSe ex l)) who)) ∧ ((W.rfI (W.toLS (W.dSe ex l)) who) < (((List.length l) : Nat) : Int))) ∧
   ((I64 ((W.Ses.seq (W.seAt l (Int.toNat (W.rfI (W.toLS (W.dSe ex l)) who)))) + (1 : Int))) ∧
   (((seq == ((W.Ses.seq (W.seAt l (Int.toNat (W.rfI (W.toLS (W.dSe ex l)) who)))) + (1 : Int))) = true →
   ((W.ShK) ∧
    (Φ Ex.ret (St.mk [(0, (W.dSe ex l)), (1, (AV.i who)), (2, (AV.i seq)), (6, (AV.ptr 6 [])), (7, (AV.i (W.rfI (W.toLS (W.dSe ex l)) who))), (22, (AV.v (Value.bool false))), (31, (AV.v (Value.bool true)))] [(6, (Blk.c (AV.st [(W.rpZ), (AV.v (Value.bool false)), (AV.i (0 : Int))])))] [6])))) ∧
   ((seq == ((W.Ses.seq (W.seAt l (Int.toNat (W.rfI (W.toLS (W.dSe ex l)) who)))) + (1 : Int))) = false →
   ((((0 : Int) ≤ (W.rfI (W.toLS (W.dSe ex l)) who)) ∧ ((W.rfI (W.toLS (W.dSe ex l)) who) < (((List.length l) : Nat) : Int))) ∧
    (((seq == (W.Ses.seq (W.seAt l (Int.toNat (W.rfI (W.toLS (W.dSe ex l)) who))))) = true →
    (((decide (seq > (0 : Int))) = true →
     ((((0 : Int) ≤ (W.rfI (W.toLS (W.dSe ex l)) who)) ∧ ((W.rfI (W.toLS (W.dSe ex l)) who) < (((List.length l) : Nat) : Int))) ∧
      ((W.ShK) ∧
      (Φ Ex.ret (St.mk [(0, (W.dSe ex l)), (1, (AV.i who)), (2, (AV.i seq)), (6, (AV.ptr 6 [])), (7, (AV.i (W.rfI (W.toLS (W.dSe ex l)) who))), (22, (AV.v (Value.bool false))), (31, (AV.v (Value.bool false))), (43, (AV.v (Value.bool true)))] [(6, (Blk.c (AV.st [(W.rpA (W.Ses.last (W.seAt l (Int.toNat (W.rfI (W.toLS (W.dSe ex l)) who))))), (AV.v (Value.bool true)), (AV.i (0 : Int))])))] [6]))))) ∧
     ((decide (seq > (0 : Int))) = false →
     ((W.ShK) ∧
      (Φ Ex.ret (St.mk [(0, (W.dSe ex l)), (1, (AV.i who)), (2, (AV.i seq)), (6, (AV.ptr 6 [])), (7, (AV.i (W.rfI (W.toLS (W.dSe ex l)) who))), (22, (AV.v (Value.bool false))), (31, (AV.v (Value.bool false))), (43, (AV.v (Value.bool false)))] [(6, (Blk.c (AV.st [(W.rpZ), (AV.v (Value.bool false)), (AV.i (191 : Int))])))] [6])))))) ∧
    ((seq == (W.Ses.seq (W.seAt l (Int.toNat (W.rfI (W.toLS (W.dSe ex l)) who))))) = false →
    ((W.ShK) ∧
     (Φ Ex.ret (St.mk [(0, (W.dSe ex l)), (1, (AV.i who)), (2, (AV.i seq)), (6, (AV.ptr 6 [])), (7, (AV.i (W.rfI (W.toLS (W.dSe ex l)) who))), (22, (AV.v (Value.bool false))), (31, (AV.v (Value.bool false))), (43, (AV.v (Value.bool false)))] [(6, (Blk.c (AV.st [(W.rpZ), (AV.v (Value.bool false)), (AV.i (191 : Int))])))] [6])))))))))))))))))) := by kernel_rfl
theorem rsame_A (ex ex2 : Bool) (l m : List Ses) (K : Nat) (Φ : Ex → St → Prop) :
  (Holds C P 55 [] K Φ (vc C w_rsame b_rsame [] (start [dSe ex l, dSe ex2 m] []) lf)) =
  ((((((List.length l) : Nat) : Int) != (((List.length m) : Nat) : Int)) = true →
 (Φ Ex.ret (St.mk [(0, (W.dSe ex l)), (1, (W.dSe ex2 m)), (4, (AV.v (Value.bool false))), (10, (AV.v (Value.bool true)))] [] []))) ∧
 (((((List.length l) : Nat) : Int) != (((List.length m) : Nat) : Int)) = false →
 (LoopOK W.C W.P 55 [] K (bodyAt b_rsame [1, 1, 0, 1, 0]) (St.mk [(0, (W.dSe ex l)), (1, (W.dSe ex2 m)), (4, (AV.v (Value.bool false))), (5, (AV.i (0 : Int))), (10, (AV.v (Value.bool false)))] [] []) (fun (e : Ex) (S' : St) => Holds W.C W.P 55 [] K Φ (after W.C w_rsame b_rsame [1, 1, 0, 1, 0] [] lf e S'))))) := by kernel_rfl
noncomputable abbrev bd_rsame_0 : Code := bodyAt (b_rsame) [1, 1, 0, 1, 0]
theorem ok_rsame_0 : codeOK bd_rsame_0 = true := by kernel_rfl
noncomputable abbrev rest_rsame_0 (K : Nat) (Φ : Ex → St → Prop) : Ex → St → Prop := fun e S' => Holds C P 55 [] K Φ (after C w_rsame (b_rsame) [1, 1, 0, 1, 0] [] lf e S')
theorem rsame_L0 (ex ex2 : Bool) (l m : List Ses) (i : Nat) (K : Nat) (Φ : Ex → St → Prop) :
  (Holds C P 55 [] K (RoundQ C 55 [] K (I_rs ex ex2 l m) (fun i => i ≤ l.length ∧ ∀ k, k < i → (decide ((seAt l k).who = (seAt m k).who) && decide ((seAt l k).seq = (seAt m k).seq) && eqR (seAt l k).last (seAt m k).last) = true) (fun i => l.length - i) ((fun i => l.length - i) (i)) (rest_rsame_0 K Φ)) (vc C w_rsame bd_rsame_0 [] ((I_rs ex ex2 l m) (i)) lf)) =
  (((decide (((i : Nat) : Int) < (((List.length l) : Nat) : Int))) = true →
 ((((0 : Int) ≤ ((i : Nat) : Int)) ∧ (((i : Nat) : Int) < (((List.length l) : Nat) : Int))) ∧
  ((((0 : Int) ≤ ((i : Nat) : Int)) ∧ (((i : Nat) : Int) < (((List.length m) : Nat) : Int))) ∧
  ((((W.Ses.who (W.seAt l i)) != (W.Ses.who (W.seAt m i))) = true →
  (Φ Ex.ret (St.mk [(0, (W.dSe ex l)), (1, (W.dSe ex2 m)), (4, (AV.v (Value.bool false))), (5, (AV.i ((i : Nat) : Int))), (14, (AV.v (Value.bool true))), (54, (AV.v (Value.bool true)))] [] []))) ∧
  (((W.Ses.who (W.seAt l i)) != (W.Ses.who (W.seAt m i))) = false →
  ((((0 : Int) ≤ ((i : Nat) : Int)) ∧ (((i : Nat) : Int) < (((List.length l) : Nat) : Int))) ∧
   ((((0 : Int) ≤ ((i : Nat) : Int)) ∧ (((i : Nat) : Int) < (((List.length m) : Nat) : Int))) ∧
   ((((W.Ses.seq (W.seAt l i)) != (W.Ses.seq (W.seAt m i))) = true →
   (Φ Ex.ret (St.mk [(0, (W.dSe ex l)), (1, (W.dSe ex2 m)), (4, (AV.v (Value.bool false))), (5, (AV.i ((i : Nat) : Int))), (14, (AV.v (Value.bool true))), (54, (AV.v (Value.bool true)))] [] []))) ∧
   (((W.Ses.seq (W.seAt l i)) != (W.Ses.seq (W.seAt m i))) = false →
   ((((0 : Int) ≤ ((i : Nat) : Int)) ∧ (((i : Nat) : Int) < (((List.length l) : Nat) : Int))) ∧
    ((((0 : Int) ≤ ((i : Nat) : Int)) ∧ (((i : Nat) : Int) < (((List.length m) : Nat) : Int))) ∧
    (Fun W.C W.P 27 [(W.rpA (W.Ses.last (W.seAt l i))), (W.rpA (W.Ses.last (W.seAt m i)))] [] (AV.sb (W.eqR (W.toRp (W.rpA (W.Ses.last (W.seAt l i)))) (W.toRp (W.rpA (W.Ses.last (W.seAt m i)))))) [] ∧
    (True ∧
    (((! (W.eqR (W.toRp (W.rpA (W.Ses.last (W.seAt l i)))) (W.toRp (W.rpA (W.Ses.last (W.seAt m i)))))) = true →
    (Φ Ex.ret (St.mk [(0, (W.dSe ex l)), (1, (W.dSe ex2 m)), (4, (AV.v (Value.bool false))), (5, (AV.i ((i : Nat) : Int))), (14, (AV.v (Value.bool true))), (54, (AV.v (Value.bool true)))] [] []))) ∧
    ((! (W.eqR (W.toRp (W.rpA (W.Ses.last (W.seAt l i)))) (W.toRp (W.rpA (W.Ses.last (W.seAt m i)))))) = false →
    ((I64 (((i + 1) : Nat) : Int)) ∧
     ((RoundQ C 55 [] K (I_rs ex ex2 l m) (fun i => i ≤ l.length ∧ ∀ k, k < i → (decide ((seAt l k).who = (seAt m k).who) && decide ((seAt l k).seq = (seAt m k).seq) && eqR (seAt l k).last (seAt m k).last) = true) (fun i => l.length - i) ((fun i => l.length - i) (i)) (rest_rsame_0 K Φ)) Ex.normal (St.mk [(0, (W.dSe ex l)), (1, (W.dSe ex2 m)), (5, (AV.i (((i + 1) : Nat) : Int))), (14, (AV.v (Value.bool true))), (54, (AV.v (Value.bool false)))] [] [])))))))))))))))))) ∧
 ((decide (((i : Nat) : Int) < (((List.length l) : Nat) : Int))) = false →
 (Φ Ex.ret (St.mk [(0, (W.dSe ex l)), (1, (W.dSe ex2 m)), (4, (AV.v (Value.bool true))), (5, (AV.i ((i : Nat) : Int))), (14, (AV.v (Value.bool false)))] [] [])))) := by kernel_rfl
theorem rend_A (ex : Bool) (l : List Ses) (who : Int) (K : Nat) (Φ : Ex → St → Prop) :
  (Holds C P 26 [] K Φ (vc C w_rend b_rend [] (start [dSe ex l, .i who] []) lf)) =
  (Fun W.C W.P 18 [(W.dSe ex l), (AV.i who)] [] (AV.i (W.rfI (W.toLS (W.dSe ex l)) who)) [] ∧
 (True ∧
 (((decide ((W.rfI (W.toLS (W.dSe ex l)) who) < (0 : Int))) = true →
 ((W.Sh2) ∧
  (Φ Ex.ret (St.mk [(0, (W.dSe ex l)), (1, (AV.i who)), (4, (AV.ptr 4 [])), (5, (AV.i (W.rfI (W.toLS (W.dSe ex l)) who))), (11, (AV.v (Value.bool true)))] [(4, (Blk.c (AV.st [(W.dSe ex l), (AV.i (190 : Int))])))] [4])))) ∧
 ((decide ((W.rfI (W.toLS (W.dSe ex l)) who) < (0 : Int))) = false →
 ((((0 : Int) ≤ (0 : Int)) ∧ (((0 : Int) ≤ (W.rfI (W.toLS (W.dSe ex l)) who)) ∧ ((W.rfI (W.toLS (W.dSe ex l)) who) ≤ (((List.length l) : Nat) : Int)))) ∧
  ((0 = 0) ∧
  (((0 = 0) ∨ (0 < (Int.toNat (W.rfI (W.toLS (W.dSe ex l)) who)))) ∧
  ((((0 + (Int.toNat (W.rfI (W.toLS (W.dSe ex l)) who))) * 192) ≤ 140737488355328) ∧
  ((I64 ((W.rfI (W.toLS (W.dSe ex l)) who) + (1 : Int))) ∧
  ((((0 : Int) ≤ ((W.rfI (W.toLS (W.dSe ex l)) who) + (1 : Int))) ∧ ((((W.rfI (W.toLS (W.dSe ex l)) who) + (1 : Int)) ≤ (((List.length l) : Nat) : Int)) ∧ ((((List.length l) : Nat) : Int) ≤ (((List.length l) : Nat) : Int)))) ∧
  (((((0 + (Int.toNat (W.rfI (W.toLS (W.dSe ex l)) who))) + ((List.length l) - (Int.toNat ((W.rfI (W.toLS (W.dSe ex l)) who) + (1 : Int))))) * 192) ≤ 140737488355328) ∧
  ((W.Sh2) ∧
  (Φ Ex.ret (St.mk [(0, (W.dSe ex l)), (1, (AV.i who)), (4, (AV.ptr 4 [])), (5, (AV.i (W.rfI (W.toLS (W.dSe ex l)) who))), (6, (AV.sl 18 [] 0 (0 + (Int.toNat (W.rfI (W.toLS (W.dSe ex l)) who))) (0 + (Int.toNat (W.rfI (W.toLS (W.dSe ex l)) who))) false 14)), (11, (AV.v (Value.bool false)))] [(4, (Blk.c (AV.st [(AV.sl 24 [] 0 ((0 + (Int.toNat (W.rfI (W.toLS (W.dSe ex l)) who))) + ((List.length l) - (Int.toNat ((W.rfI (W.toLS (W.dSe ex l)) who) + (1 : Int))))) ((0 + (Int.toNat (W.rfI (W.toLS (W.dSe ex l)) who))) + ((List.length l) - (Int.toNat ((W.rfI (W.toLS (W.dSe ex l)) who) + (1 : Int))))) false 14), (AV.i (0 : Int))]))), (14, (Blk.c (AV.st []))), (24, (Blk.c (AV.arr ((0 + (Int.toNat (W.rfI (W.toLS (W.dSe ex l)) who))) + ((List.length l) - (Int.toNat ((W.rfI (W.toLS (W.dSe ex l)) who) + (1 : Int))))) 14 (cat (0 + (Int.toNat (W.rfI (W.toLS (W.dSe ex l)) who))) (fun (i : Nat) => (W.seA (W.seAt l (0 + (0 + i))))) (fun (i : Nat) => (W.seA (W.seAt l ((Int.toNat ((W.rfI (W.toLS (W.dSe ex l)) who) + (1 : Int))) + i))))))))] [24, 18, 14, 4])))))))))))))) := by kernel_rfl
theorem rdone_A (ex : Bool) (l : List Ses) (who seq : Int) (r : Rp) (K : Nat) (Φ : Ex → St → Prop) :
  (Holds C P 47 [] K Φ (vc C w_rdone b_rdone [] (start [dSe ex l, .i who, .i seq, rpA r] []) lf)) =
  (Fun W.C W.P 18 [(W.dSe ex l), (AV.i who)] [] (AV.i (W.rfI (W.toLS (W.dSe ex l)) who)) [] ∧
 (True ∧
 (((decide ((W.rfI (W.toLS (W.dSe ex l)) who) < (0 : Int))) = true →
 ((W.Sh2) ∧
  (Φ Ex.ret (St.mk [(0, (W.dSe ex l)), (1, (AV.i who)), (2, (AV.i seq)), (3, (W.rpA r)), (7, (AV.ptr 7 [])), (8, (AV.ptr 8 [])), (9, (AV.i (W.rfI (W.toLS (W.dSe ex l)) who))), (25, (AV.v (Value.bool true)))] [(7, (Blk.c (W.rpA r))), (8, (Blk.c (AV.st [(W.dSe ex l), (AV.i (190 : Int))])))] [8, 7])))) ∧
 ((decide ((W.rfI (W.toLS (W.dSe ex l)) who) < (0 : Int))) = false →
 ((((0 : Int) ≤ (W.rfI (W.toLS (W.dSe ex l)) who)) ∧ ((W.rfI (W.toLS (W.dSe ex l)) who) < (((List.length l) : Nat) : Int))) ∧
  ((I64 ((W.Ses.seq (W.seAt l (Int.toNat (W.rfI (W.toLS (W.dSe ex l)) who)))) + (1 : Int))) ∧
  (((seq != ((W.Ses.seq (W.seAt l (Int.toNat (W.rfI (W.toLS (W.dSe ex l)) who)))) + (1 : Int))) = true →
  ((W.Sh2) ∧
   (Φ Ex.ret (St.mk [(0, (W.dSe ex l)), (1, (AV.i who)), (2, (AV.i seq)), (3, (W.rpA r)), (7, (AV.ptr 7 [])), (8, (AV.ptr 8 [])), (9, (AV.i (W.rfI (W.toLS (W.dSe ex l)) who))), (25, (AV.v (Value.bool true)))] [(7, (Blk.c (W.rpA r))), (8, (Blk.c (AV.st [(W.dSe ex l), (AV.i (190 : Int))])))] [8, 7])))) ∧
  ((seq != ((W.Ses.seq (W.seAt l (Int.toNat (W.rfI (W.toLS (W.dSe ex l)) who)))) + (1 : Int))) = false →
  (((decide (seq > (1000000000 : Int))) = true →
   ((W.Sh2) ∧
    (Φ Ex.ret (St.mk [(0, (W.dSe ex l)), (1, (AV.i who)), (2, (AV.i seq)), (3, (W.rpA r)), (7, (AV.ptr 7 [])), (8, (AV.ptr 8 [])), (9, (AV.i (W.rfI (W.toLS (W.dSe ex l)) who))), (25, (AV.v (Value.bool false))), (29, (AV.v (Value.bool true)))] [(7, (Blk.c (W.rpA r))), (8, (Blk.c (AV.st [(W.dSe ex l), (AV.i (2 : Int))])))] [8, 7])))) ∧
   ((decide (seq > (1000000000 : Int))) = false →
   ((0 = 0) ∧
    (((0 = 0) ∨ (0 < (List.length l))) ∧
    ((((0 + (List.length l)) * 192) ≤ 140737488355328) ∧
    (∃ (S2 : St), Ent W.C 47 [] K (St.mk [(0, (W.dSe ex l)), (1, (AV.i who)), (2, (AV.i seq)), (3, (W.rpA r)), (7, (AV.ptr 7 [])), (8, (AV.ptr 8 [])), (9, (AV.i (W.rfI (W.toLS (W.dSe ex l)) who))), (10, (AV.sl 34 [] 0 (0 + (List.length l)) (0 + (List.length l)) false 14)), (25, (AV.v (Value.bool false))), (29, (AV.v (Value.bool false)))] [(7, (Blk.c (W.rpA r))), (8, (Blk.c (AV.st [(W.zD), (AV.i (0 : Int))]))), (32, (Blk.c (AV.st []))), (34, (Blk.c (AV.arr (0 + (List.length l)) 14 (cat 0 (fun (_i : Nat) => (AV.v (Value.tuple (List.toArray [])))) (fun (i : Nat) => (W.seA (W.seAt l i)))))))] [34, 32, 8, 7]) S2 ∧ Holds W.C W.P 47 [] K Φ (cutAt W.C w_rdone b_rdone [1, 1, 1, 1, 1, 0] S2 (after W.C w_rdone b_rdone [1, 1, 1, 1, 1, 0] [] lf)))))))))))))))) := by kernel_rfl
theorem rdone_AR (l : List Ses) (who seq : Int) (r : Rp) (K : Nat) (Φ : Ex → St → Prop) :
  (Holds C P 47 [] K Φ (vc C w_rdone b_rdone [] (start [.sl 0 [] 0 l.length l.length false 14, .i who, .i seq, rpA r] [(0, .c (.arr l.length 14 (rowS l)))]) lf)) =
  (Fun W.C W.P 18 [(AV.dat (List.length l) false 14 (fun (i : Nat) => (W.seA (W.seAt l (0 + i))))), (AV.i who)] [] (AV.i (W.rfI (W.toLS (AV.dat (List.length l) false 14 (fun (i : Nat) => (W.seA (W.seAt l (0 + i)))))) who)) [] ∧
 (True ∧
 (((decide ((W.rfI (W.toLS (AV.dat (List.length l) false 14 (fun (i : Nat) => (W.seA (W.seAt l (0 + i)))))) who) < (0 : Int))) = true →
 ((W.Sh2) ∧
  (Φ Ex.ret (St.mk [(0, (AV.sl 0 [] 0 (List.length l) (List.length l) false 14)), (1, (AV.i who)), (2, (AV.i seq)), (3, (W.rpA r)), (7, (AV.ptr 7 [])), (8, (AV.ptr 8 [])), (9, (AV.i (W.rfI (W.toLS (AV.dat (List.length l) false 14 (fun (i : Nat) => (W.seA (W.seAt l (0 + i)))))) who))), (25, (AV.v (Value.bool true)))] [(0, (Blk.c (AV.arr (List.length l) 14 (W.rowS l)))), (7, (Blk.c (W.rpA r))), (8, (Blk.c (AV.st [(AV.sl 0 [] 0 (List.length l) (List.length l) false 14), (AV.i (190 : Int))])))] [8, 7, 0])))) ∧
 ((decide ((W.rfI (W.toLS (AV.dat (List.length l) false 14 (fun (i : Nat) => (W.seA (W.seAt l (0 + i)))))) who) < (0 : Int))) = false →
 ((((0 : Int) ≤ (W.rfI (W.toLS (AV.dat (List.length l) false 14 (fun (i : Nat) => (W.seA (W.seAt l (0 + i)))))) who)) ∧ ((W.rfI (W.toLS (AV.dat (List.length l) false 14 (fun (i : Nat) => (W.seA (W.seAt l (0 + i)))))) who) < (((List.length l) : Nat) : Int))) ∧
  ((I64 ((W.Ses.seq (W.seAt l (0 + (Int.toNat (W.rfI (W.toLS (AV.dat (List.length l) false 14 (fun (i : Nat) => (W.seA (W.seAt l (0 + i)))))) who))))) + (1 : Int))) ∧
  (((seq != ((W.Ses.seq (W.seAt l (0 + (Int.toNat (W.rfI (W.toLS (AV.dat (List.length l) false 14 (fun (i : Nat) => (W.seA (W.seAt l (0 + i)))))) who))))) + (1 : Int))) = true →
  ((W.Sh2) ∧
   (Φ Ex.ret (St.mk [(0, (AV.sl 0 [] 0 (List.length l) (List.length l) false 14)), (1, (AV.i who)), (2, (AV.i seq)), (3, (W.rpA r)), (7, (AV.ptr 7 [])), (8, (AV.ptr 8 [])), (9, (AV.i (W.rfI (W.toLS (AV.dat (List.length l) false 14 (fun (i : Nat) => (W.seA (W.seAt l (0 + i)))))) who))), (25, (AV.v (Value.bool true)))] [(0, (Blk.c (AV.arr (List.length l) 14 (W.rowS l)))), (7, (Blk.c (W.rpA r))), (8, (Blk.c (AV.st [(AV.sl 0 [] 0 (List.length l) (List.length l) false 14), (AV.i (190 : Int))])))] [8, 7, 0])))) ∧
  ((seq != ((W.Ses.seq (W.seAt l (0 + (Int.toNat (W.rfI (W.toLS (AV.dat (List.length l) false 14 (fun (i : Nat) => (W.seA (W.seAt l (0 + i)))))) who))))) + (1 : Int))) = false →
  (((decide (seq > (1000000000 : Int))) = true →
   ((W.Sh2) ∧
    (Φ Ex.ret (St.mk [(0, (AV.sl 0 [] 0 (List.length l) (List.length l) false 14)), (1, (AV.i who)), (2, (AV.i seq)), (3, (W.rpA r)), (7, (AV.ptr 7 [])), (8, (AV.ptr 8 [])), (9, (AV.i (W.rfI (W.toLS (AV.dat (List.length l) false 14 (fun (i : Nat) => (W.seA (W.seAt l (0 + i)))))) who))), (25, (AV.v (Value.bool false))), (29, (AV.v (Value.bool true)))] [(0, (Blk.c (AV.arr (List.length l) 14 (W.rowS l)))), (7, (Blk.c (W.rpA r))), (8, (Blk.c (AV.st [(AV.sl 0 [] 0 (List.length l) (List.length l) false 14), (AV.i (2 : Int))])))] [8, 7, 0])))) ∧
   ((decide (seq > (1000000000 : Int))) = false →
   ((0 = 0) ∧
    (((0 = 0) ∨ (0 < (List.length l))) ∧
    ((((0 + (List.length l)) * 192) ≤ 140737488355328) ∧
    (∃ (S2 : St), Ent W.C 47 [] K (St.mk [(0, (AV.sl 0 [] 0 (List.length l) (List.length l) false 14)), (1, (AV.i who)), (2, (AV.i seq)), (3, (W.rpA r)), (7, (AV.ptr 7 [])), (8, (AV.ptr 8 [])), (9, (AV.i (W.rfI (W.toLS (AV.dat (List.length l) false 14 (fun (i : Nat) => (W.seA (W.seAt l (0 + i)))))) who))), (10, (AV.sl 34 [] 0 (0 + (List.length l)) (0 + (List.length l)) false 14)), (25, (AV.v (Value.bool false))), (29, (AV.v (Value.bool false)))] [(0, (Blk.c (AV.arr (List.length l) 14 (W.rowS l)))), (7, (Blk.c (W.rpA r))), (8, (Blk.c (AV.st [(W.zD), (AV.i (0 : Int))]))), (32, (Blk.c (AV.st []))), (34, (Blk.c (AV.arr (0 + (List.length l)) 14 (cat 0 (fun (_i : Nat) => (AV.v (Value.tuple (List.toArray [])))) (fun (i : Nat) => (W.seA (W.seAt l (0 + i))))))))] [34, 32, 8, 7, 0]) S2 ∧ Holds W.C W.P 47 [] K Φ (cutAt W.C w_rdone b_rdone [1, 1, 1, 1, 1, 0] S2 (after W.C w_rdone b_rdone [1, 1, 1, 1, 1, 0] [] lf)))))))))))))))) := by kernel_rfl
theorem rdone_C7k0 (l : List Ses) (seq : Int) (r : Rp) (K : Nat) (Φ : Ex → St → Prop) :
  (Holds C P 47 [] K Φ (cutAt C w_rdone b_rdone [1, 1, 1, 1, 1, 0] (S_rd7 l 0 seq r) (after C w_rdone b_rdone [1, 1, 1, 1, 1, 0] [] lf))) =
  ((((0 : Int) ≤ (0 : Int)) ∧ ((0 : Int) < (((List.length l) : Nat) : Int))) ∧
 ((((0 : Int) ≤ (0 : Int)) ∧ ((0 : Int) < (((List.length l) : Nat) : Int))) ∧
 ((W.ShR) ∧
 ((W.Sh2) ∧
 (Φ Ex.ret (St.mk [(2, (AV.i seq)), (7, (AV.ptr 7 [])), (8, (AV.ptr 8 [])), (9, (AV.i (0 : Int))), (10, (AV.sl 10 [] 0 (List.length l) (List.length l) false 14))] [(7, (Blk.c (W.rpA r))), (8, (Blk.c (AV.st [(AV.sl 10 [] 0 (List.length l) (List.length l) false 14), (AV.i (0 : Int))]))), (10, (Blk.c (AV.arr (List.length l) 14 (fun (j : Nat) => (if (j = 0) then (AV.st [(AV.i (W.Ses.who (W.seAt l 0))), (AV.i seq), (W.rpA r)]) else (if (j = 0) then (AV.st [(AV.i (W.Ses.who (W.seAt l 0))), (AV.i seq), (W.rpA (W.Ses.last (W.seAt l 0)))]) else (W.seA (W.seAt l j))))))))] [0, 7, 8, 10])))))) := by kernel_rfl
theorem rdone_C7k1 (l : List Ses) (seq : Int) (r : Rp) (K : Nat) (Φ : Ex → St → Prop) :
  (Holds C P 47 [] K Φ (cutAt C w_rdone b_rdone [1, 1, 1, 1, 1, 0] (S_rd7 l 1 seq r) (after C w_rdone b_rdone [1, 1, 1, 1, 1, 0] [] lf))) =
  ((((0 : Int) ≤ (1 : Int)) ∧ ((1 : Int) < (((List.length l) : Nat) : Int))) ∧
 ((((0 : Int) ≤ (1 : Int)) ∧ ((1 : Int) < (((List.length l) : Nat) : Int))) ∧
 ((W.ShR) ∧
 ((W.Sh2) ∧
 (Φ Ex.ret (St.mk [(2, (AV.i seq)), (7, (AV.ptr 7 [])), (8, (AV.ptr 8 [])), (9, (AV.i (1 : Int))), (10, (AV.sl 10 [] 0 (List.length l) (List.length l) false 14))] [(7, (Blk.c (W.rpA r))), (8, (Blk.c (AV.st [(AV.sl 10 [] 0 (List.length l) (List.length l) false 14), (AV.i (0 : Int))]))), (10, (Blk.c (AV.arr (List.length l) 14 (fun (j : Nat) => (if (j = 1) then (AV.st [(AV.i (W.Ses.who (W.seAt l 1))), (AV.i seq), (W.rpA r)]) else (if (j = 1) then (AV.st [(AV.i (W.Ses.who (W.seAt l 1))), (AV.i seq), (W.rpA (W.Ses.last (W.seAt l 1)))]) else (W.seA (W.seAt l j))))))))] [0, 7, 8, 10])))))) := by kernel_rfl
theorem rdone_C7k2 (l : List Ses) (seq : Int) (r : Rp) (K : Nat) (Φ : Ex → St → Prop) :
  (Holds C P 47 [] K Φ (cutAt C w_rdone b_rdone [1, 1, 1, 1, 1, 0] (S_rd7 l 2 seq r) (after C w_rdone b_rdone [1, 1, 1, 1, 1, 0] [] lf))) =
  ((((0 : Int) ≤ (2 : Int)) ∧ ((2 : Int) < (((List.length l) : Nat) : Int))) ∧
 ((((0 : Int) ≤ (2 : Int)) ∧ ((2 : Int) < (((List.length l) : Nat) : Int))) ∧
 ((W.ShR) ∧
 ((W.Sh2) ∧
 (Φ Ex.ret (St.mk [(2, (AV.i seq)), (7, (AV.ptr 7 [])), (8, (AV.ptr 8 [])), (9, (AV.i (2 : Int))), (10, (AV.sl 10 [] 0 (List.length l) (List.length l) false 14))] [(7, (Blk.c (W.rpA r))), (8, (Blk.c (AV.st [(AV.sl 10 [] 0 (List.length l) (List.length l) false 14), (AV.i (0 : Int))]))), (10, (Blk.c (AV.arr (List.length l) 14 (fun (j : Nat) => (if (j = 2) then (AV.st [(AV.i (W.Ses.who (W.seAt l 2))), (AV.i seq), (W.rpA r)]) else (if (j = 2) then (AV.st [(AV.i (W.Ses.who (W.seAt l 2))), (AV.i seq), (W.rpA (W.Ses.last (W.seAt l 2)))]) else (W.seA (W.seAt l j))))))))] [0, 7, 8, 10])))))) := by kernel_rfl
theorem rdone_C7k3 (l : List Ses) (seq : Int) (r : Rp) (K : Nat) (Φ : Ex → St → Prop) :
  (Holds C P 47 [] K Φ (cutAt C w_rdone b_rdone [1, 1, 1, 1, 1, 0] (S_rd7 l 3 seq r) (after C w_rdone b_rdone [1, 1, 1, 1, 1, 0] [] lf))) =
  ((((0 : Int) ≤ (3 : Int)) ∧ ((3 : Int) < (((List.length l) : Nat) : Int))) ∧
 ((((0 : Int) ≤ (3 : Int)) ∧ ((3 : Int) < (((List.length l) : Nat) : Int))) ∧
 ((W.ShR) ∧
 ((W.Sh2) ∧
 (Φ Ex.ret (St.mk [(2, (AV.i seq)), (7, (AV.ptr 7 [])), (8, (AV.ptr 8 [])), (9, (AV.i (3 : Int))), (10, (AV.sl 10 [] 0 (List.length l) (List.length l) false 14))] [(7, (Blk.c (W.rpA r))), (8, (Blk.c (AV.st [(AV.sl 10 [] 0 (List.length l) (List.length l) false 14), (AV.i (0 : Int))]))), (10, (Blk.c (AV.arr (List.length l) 14 (fun (j : Nat) => (if (j = 3) then (AV.st [(AV.i (W.Ses.who (W.seAt l 3))), (AV.i seq), (W.rpA r)]) else (if (j = 3) then (AV.st [(AV.i (W.Ses.who (W.seAt l 3))), (AV.i seq), (W.rpA (W.Ses.last (W.seAt l 3)))]) else (W.seA (W.seAt l j))))))))] [0, 7, 8, 10])))))) := by kernel_rfl
theorem rdone_C7k4 (l : List Ses) (seq : Int) (r : Rp) (K : Nat) (Φ : Ex → St → Prop) :
  (Holds C P 47 [] K Φ (cutAt C w_rdone b_rdone [1, 1, 1, 1, 1, 0] (S_rd7 l 4 seq r) (after C w_rdone b_rdone [1, 1, 1, 1, 1, 0] [] lf))) =
  ((((0 : Int) ≤ (4 : Int)) ∧ ((4 : Int) < (((List.length l) : Nat) : Int))) ∧
 ((((0 : Int) ≤ (4 : Int)) ∧ ((4 : Int) < (((List.length l) : Nat) : Int))) ∧
 ((W.ShR) ∧
 ((W.Sh2) ∧
 (Φ Ex.ret (St.mk [(2, (AV.i seq)), (7, (AV.ptr 7 [])), (8, (AV.ptr 8 [])), (9, (AV.i (4 : Int))), (10, (AV.sl 10 [] 0 (List.length l) (List.length l) false 14))] [(7, (Blk.c (W.rpA r))), (8, (Blk.c (AV.st [(AV.sl 10 [] 0 (List.length l) (List.length l) false 14), (AV.i (0 : Int))]))), (10, (Blk.c (AV.arr (List.length l) 14 (fun (j : Nat) => (if (j = 4) then (AV.st [(AV.i (W.Ses.who (W.seAt l 4))), (AV.i seq), (W.rpA r)]) else (if (j = 4) then (AV.st [(AV.i (W.Ses.who (W.seAt l 4))), (AV.i seq), (W.rpA (W.Ses.last (W.seAt l 4)))]) else (W.seA (W.seAt l j))))))))] [0, 7, 8, 10])))))) := by kernel_rfl
theorem rdone_C7k5 (l : List Ses) (seq : Int) (r : Rp) (K : Nat) (Φ : Ex → St → Prop) :
  (Holds C P 47 [] K Φ (cutAt C w_rdone b_rdone [1, 1, 1, 1, 1, 0] (S_rd7 l 5 seq r) (after C w_rdone b_rdone [1, 1, 1, 1, 1, 0] [] lf))) =
  ((((0 : Int) ≤ (5 : Int)) ∧ ((5 : Int) < (((List.length l) : Nat) : Int))) ∧
 ((((0 : Int) ≤ (5 : Int)) ∧ ((5 : Int) < (((List.length l) : Nat) : Int))) ∧
 ((W.ShR) ∧
 ((W.Sh2) ∧
 (Φ Ex.ret (St.mk [(2, (AV.i seq)), (7, (AV.ptr 7 [])), (8, (AV.ptr 8 [])), (9, (AV.i (5 : Int))), (10, (AV.sl 10 [] 0 (List.length l) (List.length l) false 14))] [(7, (Blk.c (W.rpA r))), (8, (Blk.c (AV.st [(AV.sl 10 [] 0 (List.length l) (List.length l) false 14), (AV.i (0 : Int))]))), (10, (Blk.c (AV.arr (List.length l) 14 (fun (j : Nat) => (if (j = 5) then (AV.st [(AV.i (W.Ses.who (W.seAt l 5))), (AV.i seq), (W.rpA r)]) else (if (j = 5) then (AV.st [(AV.i (W.Ses.who (W.seAt l 5))), (AV.i seq), (W.rpA (W.Ses.last (W.seAt l 5)))]) else (W.seA (W.seAt l j))))))))] [0, 7, 8, 10])))))) := by kernel_rfl
theorem rdone_C7k6 (l : List Ses) (seq : Int) (r : Rp) (K : Nat) (Φ : Ex → St → Prop) :
  (Holds C P 47 [] K Φ (cutAt C w_rdone b_rdone [1, 1, 1, 1, 1, 0] (S_rd7 l 6 seq r) (after C w_rdone b_rdone [1, 1, 1, 1, 1, 0] [] lf))) =
  ((((0 : Int) ≤ (6 : Int)) ∧ ((6 : Int) < (((List.length l) : Nat) : Int))) ∧
 ((((0 : Int) ≤ (6 : Int)) ∧ ((6 : Int) < (((List.length l) : Nat) : Int))) ∧
 ((W.ShR) ∧
 ((W.Sh2) ∧
 (Φ Ex.ret (St.mk [(2, (AV.i seq)), (7, (AV.ptr 7 [])), (8, (AV.ptr 8 [])), (9, (AV.i (6 : Int))), (10, (AV.sl 10 [] 0 (List.length l) (List.length l) false 14))] [(7, (Blk.c (W.rpA r))), (8, (Blk.c (AV.st [(AV.sl 10 [] 0 (List.length l) (List.length l) false 14), (AV.i (0 : Int))]))), (10, (Blk.c (AV.arr (List.length l) 14 (fun (j : Nat) => (if (j = 6) then (AV.st [(AV.i (W.Ses.who (W.seAt l 6))), (AV.i seq), (W.rpA r)]) else (if (j = 6) then (AV.st [(AV.i (W.Ses.who (W.seAt l 6))), (AV.i seq), (W.rpA (W.Ses.last (W.seAt l 6)))]) else (W.seA (W.seAt l j))))))))] [0, 7, 8, 10])))))) := by kernel_rfl
theorem rdone_C7k7 (l : List Ses) (seq : Int) (r : Rp) (K : Nat) (Φ : Ex → St → Prop) :
  (Holds C P 47 [] K Φ (cutAt C w_rdone b_rdone [1, 1, 1, 1, 1, 0] (S_rd7 l 7 seq r) (after C w_rdone b_rdone [1, 1, 1, 1, 1, 0] [] lf))) =
  ((((0 : Int) ≤ (7 : Int)) ∧ ((7 : Int) < (((List.length l) : Nat) : Int))) ∧
 ((((0 : Int) ≤ (7 : Int)) ∧ ((7 : Int) < (((List.length l) : Nat) : Int))) ∧
 ((W.ShR) ∧
 ((W.Sh2) ∧
 (Φ Ex.ret (St.mk [(2, (AV.i seq)), (7, (AV.ptr 7 [])), (8, (AV.ptr 8 [])), (9, (AV.i (7 : Int))), (10, (AV.sl 10 [] 0 (List.length l) (List.length l) false 14))] [(7, (Blk.c (W.rpA r))), (8, (Blk.c (AV.st [(AV.sl 10 [] 0 (List.length l) (List.length l) false 14), (AV.i (0 : Int))]))), (10, (Blk.c (AV.arr (List.length l) 14 (fun (j : Nat) => (if (j = 7) then (AV.st [(AV.i (W.Ses.who (W.seAt l 7))), (AV.i seq), (W.rpA r)]) else (if (j = 7) then (AV.st [(AV.i (W.Ses.who (W.seAt l 7))), (AV.i seq), (W.rpA (W.Ses.last (W.seAt l 7)))]) else (W.seA (W.seAt l j))))))))] [0, 7, 8, 10])))))) := by kernel_rfl

theorem VS.hit {l : List Ses} (h : VS l) {who : Int} {i : Nat} (hi : i < l.length) (hw : (seAt l i).who = who) : hasS l who = true ∧ posS l who = i := by
  obtain ⟨h1, h2, h3, h4⟩ := bs_spec (mono_W h.1 who)
  have hc : cW who (l.getD i se0) = 0 := cmpI_eq.2 hw
  have hle : posS l who ≤ i := Nat.le_of_not_lt fun hlt => by have := h2 i hlt; omega
  have hge : i ≤ posS l who := Nat.le_of_not_lt fun hlt => by
    have := mono_W h.1 who (posS l who) i hlt hi (by omega)
    have h5 := h3 (posS l who) (Nat.le_refl _) (by omega)
    omega
  have he : posS l who = i := by omega
  exact ⟨h4.2 ⟨by show posS l who < _; omega, by show cW who (l.getD (posS l who) se0) = 0; rw [he]; exact hc⟩, he⟩
theorem VS.rf {l : List Ses} (h : VS l) (who : Int) : (hasS l who = true ∧ rfI l who = (posS l who : Nat) ∧ posS l who < l.length ∧ (atS l who).who = who) ∨ (hasS l who = false ∧ rfI l who = -1) := by
  unfold rfI
  cases hh : hasS l who with
  | true => exact .inl ⟨rfl, rfl, (h.has hh).1, (h.has hh).2⟩
  | false => exact .inr ⟨rfl, rfl⟩
theorem rfind_fun {l : List Ses} (ex : Bool) (h : VS l) (who : Int) : Fun C P F_rfind [dSe ex l, .i who] [] (.i (rfI l who)) [] := by
  refine in_rfind (W := w_rfind) rfl 0 (by simp) rfl (fun id h => absurd rfl h) ?_
  refine of_eq (rfind_A ex l who 0 _) ?_
  refine loop_inv (W := w_rfind) ctx mixed ok_rfind_0 (I_q ex l who) (fun i => i ≤ l.length ∧ ∀ k, k < i → (seAt l k).who ≠ who) (fun i => l.length - i) 0 ⟨Nat.zero_le _, fun k hk => absurd hk (Nat.not_lt_zero k)⟩ ?_ fun i hi => ?_
  · exact ent_of [] rfl (tm_cons rfl (sm_same rfl) (tm_cons rfl (sm_same rfl) (tm_cons rfl (sm_same rfl) tm_nil))) hp_nil
  obtain ⟨hi, hz⟩ := hi
  have h8 := h.2.2
  refine of_eq (rfind_L0 ex l who i 0 _) ⟨fun h1 => ?_, fun h1 => ?_⟩
  · have h1 := of_decide_eq_true h1
    rw [beq_dec]
    refine ⟨(by first | omega | decide | (unfold I64; omega)), fun h2 => post_tmp rfl (sm_int ?_), fun h2 => ⟨(by first | omega | decide | (unfold I64; omega)), round_end (i + 1) ⟨by omega, fun k hk => ?_⟩ (ent_of [] rfl (tm_cons rfl (sm_same rfl) (tm_cons rfl (sm_same rfl) (tm_cons rfl (sm_same rfl) tm_nil))) hp_nil) (by dsimp only; omega)⟩⟩
    · obtain ⟨h3, h4⟩ := h.hit (by omega) (of_decide_eq_true h2)
      unfold rfI; rw [h3, if_pos rfl, h4]
    · by_cases e : k = i
      · rw [e]; exact of_decide_eq_false h2
      · exact hz k (by omega)
  · have h1 := of_decide_eq_false h1
    refine post_tmp rfl (sm_int ?_)
    rcases h.rf who with ⟨_, _, h3, h4⟩ | ⟨_, h3⟩
    · exact absurd h4 (hz _ (by omega))
    · rw [h3]
theorem okS_who {l : List Ses} : ∀ {i : Nat}, (∀ k, k < i + 1 → okS l k = true) → 0 ≤ (seAt l i).who
  | 0, h => by have := (okS_iff.1 (h 0 (by omega))).1; unfold prevW at this; simp at this; omega
  | i + 1, h => by
    have h1 := (okS_iff.1 (h (i + 1) (by omega))).1
    have h2 := okS_who (i := i) fun k hk => h k (by omega)
    unfold prevW at h1
    rw [if_neg (by omega)] at h1
    have : i + 1 - 1 = i := by omega
    rw [this] at h1
    omega
theorem rvalid_fun (ex : Bool) (l : List Ses) (hn : l.length < 2 ^ 40) (hr : ∀ s, s ∈ l → RpOK s.last) : Fun C P F_rvalid [dSe ex l] [] (.sb (vB l)) [] := by
  refine in_rvalid (W := w_rvalid) rfl 0 (by simp) rfl (fun id h => absurd rfl h) ?_
  refine of_eq (rvalid_A ex l 0 _) ?_
  refine loop_inv (W := w_rvalid) ctx mixed ok_rvalid_0 (I_rv ex l) (fun i => i ≤ l.length ∧ ∀ k, k < i → okS l k = true) (fun i => l.length - i) 0 ⟨Nat.zero_le _, fun k hk => absurd hk (Nat.not_lt_zero k)⟩ ?_ fun i hi => ?_
  · exact ent_of [] rfl (tm_cons rfl (sm_same rfl) (tm_cons rfl (sm_same rfl) tm_nil)) hp_nil
  obtain ⟨hi, hz⟩ := hi
  have nx : okS l i = true → ∀ k, k < i + 1 → okS l k = true := fun ho k hk => by
    by_cases e : k = i
    · rw [e]; exact ho
    · exact hz k (by omega)
  refine of_eq (rvalid_L0 ex l i 0 _) ⟨fun h => ?_, fun h => ?_⟩
  · have h := of_decide_eq_true h
    have hlt : i < l.length := by omega
    have hro : RpOK (seAt l i).last := by rw [seAt_lt hlt]; exact hr _ (List.getElem_mem hlt)
    have ei : ((i : Int) - 1).toNat = i - 1 := by omega
    rw [ei, toRp_A, beq_dec]
    refine ⟨(by first | omega | decide | (unfold I64; omega)), fun h0 => post_tmp rfl (sm_b (congrArg Value.bool (vB_no hlt fun ho => ?_).symm)), fun h0 => ?_⟩
    · have := okS_who (nx ho); have := of_decide_eq_true h0; omega
    have h0 := of_decide_eq_false h0
    refine ⟨fun hp => ⟨(by first | omega | decide | (unfold I64; omega)), (by first | omega | decide | (unfold I64; omega)), (by have := of_decide_eq_true hp; omega), fun h1 => post_tmp rfl (sm_b (congrArg Value.bool (vB_no hlt fun ho => ?_).symm)), fun h1 => ⟨(by first | omega | decide | (unfold I64; omega)), fun h2 => post_tmp rfl (sm_b (congrArg Value.bool (vB_no hlt fun ho => ?_).symm)), fun h2 => ⟨(by first | omega | decide | (unfold I64; omega)), fun h3 => post_tmp rfl (sm_b (congrArg Value.bool (vB_no hlt fun ho => ?_).symm)), fun h3 => ⟨(by first | omega | decide | (unfold I64; omega)), fun h4 => ⟨(by first | omega | decide | (unfold I64; omega)), (rsameR_fun _ rp0 hro).sim ⟨sm_same rfl, .inr sm_rpZ', trivial⟩ trivial, trivial, fun h5 => post_tmp rfl (sm_b (congrArg Value.bool (vB_no hlt fun ho => ?_).symm)), fun h5 => ⟨(by first | omega | decide | (unfold I64; omega)), round_end (i + 1) ⟨by omega, nx ?_⟩ (ent_of [] rfl (tm_cons rfl (sm_same rfl) (tm_cons rfl (sm_same rfl) tm_nil)) hp_nil) (by dsimp only; omega)⟩⟩, fun h4 => ⟨(by first | omega | decide | (unfold I64; omega)), round_end (i + 1) ⟨by omega, nx ?_⟩ (ent_of [] rfl (tm_cons rfl (sm_same rfl) (tm_cons rfl (sm_same rfl) tm_nil)) hp_nil) (by dsimp only; omega)⟩⟩⟩⟩⟩,
      fun hp => ⟨(by first | omega | decide | (unfold I64; omega)), fun h2 => post_tmp rfl (sm_b (congrArg Value.bool (vB_no hlt fun ho => ?_).symm)), fun h2 => ⟨(by first | omega | decide | (unfold I64; omega)), fun h3 => post_tmp rfl (sm_b (congrArg Value.bool (vB_no hlt fun ho => ?_).symm)), fun h3 => ⟨(by first | omega | decide | (unfold I64; omega)), fun h4 => ⟨(by first | omega | decide | (unfold I64; omega)), (rsameR_fun _ rp0 hro).sim ⟨sm_same rfl, .inr sm_rpZ', trivial⟩ trivial, trivial, fun h5 => post_tmp rfl (sm_b (congrArg Value.bool (vB_no hlt fun ho => ?_).symm)), fun h5 => ⟨(by first | omega | decide | (unfold I64; omega)), round_end (i + 1) ⟨by omega, nx ?_⟩ (ent_of [] rfl (tm_cons rfl (sm_same rfl) (tm_cons rfl (sm_same rfl) tm_nil)) hp_nil) (by dsimp only; omega)⟩⟩, fun h4 => ⟨(by first | omega | decide | (unfold I64; omega)), round_end (i + 1) ⟨by omega, nx ?_⟩ (ent_of [] rfl (tm_cons rfl (sm_same rfl) (tm_cons rfl (sm_same rfl) tm_nil)) hp_nil) (by dsimp only; omega)⟩⟩⟩⟩⟩
    all_goals first | (have hp := of_decide_eq_true hp) | (have hp := of_decide_eq_false hp)
    · have h5 := (okS_iff.1 ho).1
      unfold prevW at h5
      rw [if_neg (by omega)] at h5
      have := of_decide_eq_true h1; omega
    · have := (okS_iff.1 ho).2.1; have := of_decide_eq_true h2; omega
    · have := (okS_iff.1 ho).2.2.1; have := of_decide_eq_true h3; omega
    · have := bnt h5
      rw [(okS_iff.1 ho).2.2.2 (of_decide_eq_true h4), eqR_iff.2 rfl] at this; cases this
    · have h1 := of_decide_eq_false h1
      have h2 := of_decide_eq_false h2
      have h3 := of_decide_eq_false h3
      refine okS_iff.2 ⟨?_, by omega, by omega, fun _ => eqR_iff.1 (bnf h5)⟩
      unfold prevW; rw [if_neg (by omega)]; omega
    · have h1 := of_decide_eq_false h1
      have h2 := of_decide_eq_false h2
      have h3 := of_decide_eq_false h3
      refine okS_iff.2 ⟨?_, by omega, by omega, fun e => absurd e (of_decide_eq_false h4)⟩
      unfold prevW; rw [if_neg (by omega)]; omega
    · have := (okS_iff.1 ho).2.1; have := of_decide_eq_true h2; omega
    · have := (okS_iff.1 ho).2.2.1; have := of_decide_eq_true h3; omega
    · have := bnt h5
      rw [(okS_iff.1 ho).2.2.2 (of_decide_eq_true h4), eqR_iff.2 rfl] at this; cases this
    · have h2 := of_decide_eq_false h2
      have h3 := of_decide_eq_false h3
      refine okS_iff.2 ⟨?_, by omega, by omega, fun _ => eqR_iff.1 (bnf h5)⟩
      unfold prevW; rw [if_pos (by omega)]; omega
    · have h2 := of_decide_eq_false h2
      have h3 := of_decide_eq_false h3
      refine okS_iff.2 ⟨?_, by omega, by omega, fun e => absurd e (of_decide_eq_false h4)⟩
      unfold prevW; rw [if_pos (by omega)]; omega
  · have h := of_decide_eq_false h
    obtain rfl : i = l.length := by omega
    refine post_tmp rfl (sm_sb ?_)
    rw [vB_yes hz]
    exact decide_eq_decide.2 (by omega)

theorem eqS_iff {l m : List Ses} : eqS l m = true ↔ l = m := by
  unfold eqS
  simp only [Bool.and_eq_true, decide_eq_true_eq, List.all_eq_true, List.mem_range, eqR_iff]
  constructor
  · rintro ⟨h1, h2⟩
    refine List.ext_getElem h1 fun i h3 h4 => ?_
    obtain ⟨⟨a, b⟩, c⟩ := h2 i h3
    rw [seAt_lt h3, seAt_lt h4] at a b c
    cases hx : l[i]; cases hy : m[i]
    rw [hx, hy] at a b c
    simp_all
  · rintro rfl; exact ⟨rfl, fun _ _ => ⟨⟨rfl, rfl⟩, rfl⟩⟩
theorem eqS_no {l m : List Ses} {i : Nat} (_hi : i < l.length) (h : (decide ((seAt l i).who = (seAt m i).who) && decide ((seAt l i).seq = (seAt m i).seq) && eqR (seAt l i).last (seAt m i).last) = false) : eqS l m = false :=
  Bool.eq_false_iff.2 fun he => by
    rw [eqS_iff.1 he] at h
    simp [eqR_iff.2] at h
theorem rsame_fun (ex ex2 : Bool) (l m : List Ses) (hn : l.length < 2 ^ 40) (hr : ∀ s, s ∈ l → RpOK s.last) : Fun C P F_rsame [dSe ex l, dSe ex2 m] [] (.sb (eqS l m)) [] := by
  refine in_rsame (W := w_rsame) rfl 0 (by simp) rfl (fun id h => absurd rfl h) ?_
  refine of_eq (rsame_A ex ex2 l m 0 _) ⟨fun h => post_tmp rfl (sm_b ?_), fun h => ?_⟩
  · have : eqS l m = false := Bool.eq_false_iff.2 fun he => ne_len h (by rw [eqS_iff.1 he])
    rw [this]
  have hl := eq_len h
  refine loop_inv (W := w_rsame) ctx mixed ok_rsame_0 (I_rs ex ex2 l m) (fun i => i ≤ l.length ∧ ∀ k, k < i → (decide ((seAt l k).who = (seAt m k).who) && decide ((seAt l k).seq = (seAt m k).seq) && eqR (seAt l k).last (seAt m k).last) = true) (fun i => l.length - i) 0 ⟨Nat.zero_le _, fun k hk => absurd hk (Nat.not_lt_zero k)⟩ ?_ fun i hi => ?_
  · exact ent_of [] rfl (tm_cons rfl (sm_same rfl) (tm_cons rfl (sm_same rfl) (tm_cons rfl (sm_same rfl) tm_nil))) hp_nil
  obtain ⟨hi, hz⟩ := hi
  refine of_eq (rsame_L0 ex ex2 l m i 0 _) ⟨fun h1 => ?_, fun h1 => ?_⟩
  · have h1 := of_decide_eq_true h1
    have hlt : i < l.length := by omega
    have hro : RpOK (seAt l i).last := by rw [seAt_lt hlt]; exact hr _ (List.getElem_mem hlt)
    rw [toRp_A, toRp_A]
    refine ⟨(by first | omega | decide | (unfold I64; omega)), (by first | omega | decide | (unfold I64; omega)), fun h2 => post_tmp rfl (sm_b (congrArg Value.bool (eqS_no hlt ?_).symm)), fun h2 => ⟨(by first | omega | decide | (unfold I64; omega)), (by first | omega | decide | (unfold I64; omega)), fun h3 => post_tmp rfl (sm_b (congrArg Value.bool (eqS_no hlt ?_).symm)), fun h3 => ⟨(by first | omega | decide | (unfold I64; omega)), (by first | omega | decide | (unfold I64; omega)), rsameR_fun _ _ hro, trivial, fun h4 => post_tmp rfl (sm_b (congrArg Value.bool (eqS_no hlt ?_).symm)), fun h4 => ⟨(by first | omega | decide | (unfold I64; omega)), round_end (i + 1) ⟨by omega, fun k hk => ?_⟩ (ent_of [] rfl (tm_cons rfl (sm_same rfl) (tm_cons rfl (sm_same rfl) (tm_cons rfl (sm_same rfl) tm_nil))) hp_nil) (by dsimp only; omega)⟩⟩⟩⟩
    · have : (seAt l i).who ≠ (seAt m i).who := by simpa using h2
      rw [decide_eq_false this]; rfl
    · have : (seAt l i).seq ≠ (seAt m i).seq := by simpa using h3
      rw [decide_eq_false this]; simp
    · rw [bnt h4]; simp
    · by_cases e : k = i
      · have a : (seAt l i).who = (seAt m i).who := by simpa using h2
        have b : (seAt l i).seq = (seAt m i).seq := by simpa using h3
        rw [e, decide_eq_true a, decide_eq_true b, bnf h4]; rfl
      · exact hz k (by omega)
  · have h1 := of_decide_eq_false h1
    obtain rfl : i = l.length := by omega
    refine post_tmp rfl (sm_b ?_)
    have : eqS l m = true := by
      unfold eqS
      rw [decide_eq_true hl, List.all_eq_true.2 fun k hk => hz k (List.mem_range.1 hk)]; rfl
    rw [this]
theorem rseen_fun {l : List Ses} (ex : Bool) (h : VS l) (who seq : Int) : Fun C P F_rseen [dSe ex l, .i who, .i seq] [] (rSeen l who seq) [] := by
  refine in_rseen (W := w_rseen) rfl 0 (by simp) rfl (fun id h => absurd rfl h) ?_
  refine of_eq (rseen_A ex l who seq 0 _) ?_
  rw [toSeL]
  have eB : ∀ {e : Int}, seenE l who seq = e → e ≠ 0 → seenB l who seq = false := fun h1 h2 => by unfold seenB; rw [h1, decide_eq_false h2]; rfl
  have eR : seenB l who seq = false → seenR l who seq = rp0 := fun h1 => by unfold seenR; rw [h1]; rfl
  have z : ∀ (e : Int), sim (look [(6, 0)]) (.st [rpZ, .v (.bool false), .i e]) (lkA rp0 false e) := fun e => ⟨.inr sm_rpZ', sm_b rfl, sm_int rfl, trivial⟩
  refine ⟨rfind_fun ex h who, trivial, ?_⟩
  rcases h.rf who with ⟨hh, hr, hp, hw⟩ | ⟨hh, hr⟩
  · rw [hr, Int.toNat_natCast]
    obtain ⟨s, hs⟩ : ∃ s, s = atS l who := ⟨_, rfl⟩
    have hs' : seAt l (posS l who) = s := hs.symm
    obtain ⟨_, hq0, hq1, _, _⟩ := h.at hp
    rw [hs'] at hq0 hq1 ⊢
    refine ⟨fun h1 => absurd (of_decide_eq_true h1) (by omega), fun h1 => ⟨(by first | omega | decide | (unfold I64; omega)), (by first | omega | decide | (unfold I64; omega)), fun h2 => ⟨shK_t, ?_⟩, fun h2 => ⟨(by first | omega | decide | (unfold I64; omega)), (by first | omega | decide | (unfold I64; omega)), fun h3 => ⟨shK_t, ?_⟩, fun h3 => ⟨(by first | omega | decide | (unfold I64; omega)), fun h4 => ⟨fun h5 => ⟨(by first | omega | decide | (unfold I64; omega)), shK_t, ?_⟩, fun h5 => ⟨shK_t, ?_⟩⟩, fun h4 => ⟨shK_t, ?_⟩⟩⟩⟩⟩
    · have e : seenE l who seq = 190 := by unfold seenE; rw [← hs, if_pos (.inr (of_decide_eq_true h2))]
      rw [rSeen, e, eB e (by decide), eR (eB e (by decide))]
      exact post_cell rfl rfl (.inr (z _)) rfl
    all_goals have h2 := of_decide_eq_false h2
    all_goals rw [beq_dec] at h3
    · have h3 := of_decide_eq_true h3
      have e : seenE l who seq = 0 := by unfold seenE; rw [← hs, hh, if_neg (by simp; omega), if_pos h3]
      have e2 : seenB l who seq = false := by unfold seenB; rw [← hs, decide_eq_false (p := seq ≠ _) (fun hn => hn h3), Bool.and_false]
      rw [rSeen, e, e2, eR e2]
      exact post_cell rfl rfl (.inr (z _)) rfl
    all_goals have h3 := of_decide_eq_false h3
    all_goals rw [beq_dec] at h4
    · have h4 := of_decide_eq_true h4
      have h5 := of_decide_eq_true h5
      have e : seenE l who seq = 0 := by unfold seenE; rw [← hs, hh, if_neg (by simp; omega), if_neg h3, if_neg (by omega)]
      have e2 : seenB l who seq = true := by unfold seenB; rw [e, ← hs, decide_eq_true (p := seq ≠ _) h3]; rfl
      have e3 : seenR l who seq = s.last := by unfold seenR; rw [e2, ← hs]; rfl
      rw [rSeen, e, e2, e3]
      exact post_cell rfl rfl (.inr ⟨sm_same rfl, sm_b rfl, sm_int rfl, trivial⟩) rfl
    · have h4 := of_decide_eq_true h4
      have h5 := of_decide_eq_false h5
      have e : seenE l who seq = 191 := by unfold seenE; rw [← hs, hh, if_neg (by simp; omega), if_neg h3, if_pos (by omega)]
      rw [rSeen, e, eB e (by decide), eR (eB e (by decide))]
      exact post_cell rfl rfl (.inr (z _)) rfl
    · have h4 := of_decide_eq_false h4
      have e : seenE l who seq = 191 := by unfold seenE; rw [← hs, hh, if_neg (by simp; omega), if_neg h3, if_pos (by omega)]
      rw [rSeen, e, eB e (by decide), eR (eB e (by decide))]
      exact post_cell rfl rfl (.inr (z _)) rfl
  · rw [hr]
    refine ⟨fun h1 => ⟨shK_t, ?_⟩, fun h1 => absurd (of_decide_eq_false h1) (by omega)⟩
    have e : seenE l who seq = 190 := by unfold seenE; rw [if_pos (.inl hh)]
    rw [rSeen, e, eB e (by decide), eR (eB e (by decide))]
    exact post_cell rfl rfl (.inr (z _)) rfl
theorem rend_fun {l : List Ses} (ex : Bool) (h : VS l) (who : Int) : Fun C P F_rend [dSe ex l, .i who] [] (rEnd l who) [] := by
  refine in_rend (W := w_rend) rfl 0 (by simp) rfl (fun id h => absurd rfl h) ?_
  refine of_eq (rend_A ex l who 0 _) ?_
  rw [toSeL]
  have h8 := h.2.2
  refine ⟨rfind_fun ex h who, trivial, ?_⟩
  rcases h.rf who with ⟨hh, hr, hp, hw⟩ | ⟨hh, hr⟩
  · rw [hr, Int.toNat_natCast, show ((posS l who : Nat) : Int) + 1 = ((posS l who + 1 : Nat) : Int) by omega, Int.toNat_natCast]
    have e : endE l who = 0 := by unfold endE; rw [hh]; rfl
    have e2 : endL l who = l.eraseIdx (posS l who) := by unfold endL; rw [hh]; rfl
    refine ⟨fun h1 => absurd (of_decide_eq_true h1) (by omega), fun h1 => ⟨(by first | omega | decide | (unfold I64; omega)), rfl, .inl rfl, (by first | omega | decide | (unfold I64; omega)), (by first | omega | decide | (unfold I64; omega)), (by first | omega | decide | (unfold I64; omega)), (by first | omega | decide | (unfold I64; omega)), sh2_t, ?_⟩⟩
    rw [rEnd, e, e2]
    refine post_frz [24] (post_cell rfl rfl (.inr ⟨sm_datr (by rw [List.length_eraseIdx, if_pos hp]; omega) (by simp) fun k hk => .inl ?_, sm_int rfl, trivial⟩) rfl)
    have hk' : k < (l.eraseIdx (posS l who)).length := by rw [List.length_eraseIdx, if_pos hp]; omega
    rw [seAt_lt hk', List.getElem_eraseIdx]
    simp only [Nat.zero_add]
    unfold cat
    by_cases h3 : k < posS l who
    · rw [if_pos h3, dif_pos h3]; dsimp only; rw [seAt_lt (by omega)]
    · rw [if_neg h3, dif_neg h3]; dsimp only; rw [show posS l who + 1 + (k - posS l who) = k + 1 by omega, seAt_lt (by omega)]
  · rw [hr]
    refine ⟨fun h1 => ⟨sh2_t, ?_⟩, fun h1 => absurd (of_decide_eq_false h1) (by omega)⟩
    have e : endE l who = 190 := by unfold endE; rw [hh]; rfl
    have e2 : endL l who = l := by unfold endL; rw [hh]; rfl
    rw [rEnd, e, e2]
    exact post_cell rfl rfl (.inr ⟨sm_dat (by simp) fun i hi => rfl, sm_int rfl, trivial⟩) rfl

def rowD (l : List Ses) (k : Nat) (seq : Int) (r : Rp) (j : Nat) : AV := if j = k then .st [.i (seAt l k).who, .i seq, rpA r] else (if j = k then .st [.i (seAt l k).who, .i seq, rpA (seAt l k).last] else seA (seAt l j))
theorem rowD_set {l : List Ses} {k : Nat} (seq : Int) (r : Rp) {j : Nat} (hj : j < l.length) : rowD l k seq r j = seA (seAt (l.set k ⟨(seAt l k).who, seq, r⟩) j) := by
  unfold rowD
  rw [seAt_set hj]
  by_cases e : j = k
  · rw [if_pos e, if_pos e]
  · rw [if_neg e, if_neg e, if_neg e]
set_option maxHeartbeats 1000000 in
/-- The place is one of eight. -/
theorem rdone_cut {l : List Ses} {k : Nat} (hk : k < l.length) (h8 : l.length ≤ 8) (seq : Int) (r : Rp) (K : Nat) {Φ : Ex → St → Prop}
    (hpost : ∀ q, q = k → Φ Ex.ret (St.mk [(2, .i seq), (7, .ptr 7 []), (8, .ptr 8 []), (9, .i (q : Nat)), (10, .sl 10 [] 0 l.length l.length false 14)] [(7, .c (rpA r)), (8, .c (.st [.sl 10 [] 0 l.length l.length false 14, .i 0])), (10, .c (.arr l.length 14 (rowD l q seq r)))] [0, 7, 8, 10])) :
    Holds C P 47 [] K Φ (cutAt C w_rdone b_rdone [1, 1, 1, 1, 1, 0] (S_rd7 l k seq r) (after C w_rdone b_rdone [1, 1, 1, 1, 1, 0] [] lf)) := by
  have hk8 : k < 8 := by omega
  match k, hk8 with
    | 0, _ => exact of_eq (rdone_C7k0 l seq r K _) ⟨(by first | omega | decide | (unfold I64; omega)), (by first | omega | decide | (unfold I64; omega)), shR_t, sh2_t, hpost 0 rfl⟩
    | 1, _ => exact of_eq (rdone_C7k1 l seq r K _) ⟨(by first | omega | decide | (unfold I64; omega)), (by first | omega | decide | (unfold I64; omega)), shR_t, sh2_t, hpost 1 rfl⟩
    | 2, _ => exact of_eq (rdone_C7k2 l seq r K _) ⟨(by first | omega | decide | (unfold I64; omega)), (by first | omega | decide | (unfold I64; omega)), shR_t, sh2_t, hpost 2 rfl⟩
    | 3, _ => exact of_eq (rdone_C7k3 l seq r K _) ⟨(by first | omega | decide | (unfold I64; omega)), (by first | omega | decide | (unfold I64; omega)), shR_t, sh2_t, hpost 3 rfl⟩
    | 4, _ => exact of_eq (rdone_C7k4 l seq r K _) ⟨(by first | omega | decide | (unfold I64; omega)), (by first | omega | decide | (unfold I64; omega)), shR_t, sh2_t, hpost 4 rfl⟩
    | 5, _ => exact of_eq (rdone_C7k5 l seq r K _) ⟨(by first | omega | decide | (unfold I64; omega)), (by first | omega | decide | (unfold I64; omega)), shR_t, sh2_t, hpost 5 rfl⟩
    | 6, _ => exact of_eq (rdone_C7k6 l seq r K _) ⟨(by first | omega | decide | (unfold I64; omega)), (by first | omega | decide | (unfold I64; omega)), shR_t, sh2_t, hpost 6 rfl⟩
    | 7, _ => exact of_eq (rdone_C7k7 l seq r K _) ⟨(by first | omega | decide | (unfold I64; omega)), (by first | omega | decide | (unfold I64; omega)), shR_t, sh2_t, hpost 7 rfl⟩
theorem doneE_has {l : List Ses} {who seq : Int} (hh : hasS l who = true) : doneE l who seq = if seq ≠ (atS l who).seq + 1 then 190 else if seq > 1000000000 then 2 else 0 := by
  unfold doneE; rw [hh]; simp
theorem rdone_fun {l : List Ses} (ex : Bool) (h : VS l) (who seq : Int) (r : Rp) : Fun C P F_rdone [dSe ex l, .i who, .i seq, rpA r] [] (rDone l who seq r) [] := by
  refine in_rdone (W := w_rdone) rfl 0 (by simp) rfl (fun id h => absurd rfl h) ?_
  refine of_eq (rdone_A ex l who seq r 0 _) ?_
  rw [toSeL]
  have h8 := h.2.2
  have no : doneE l who seq ≠ 0 → doneL l who seq r = l := fun hn => by unfold doneL; rw [if_neg hn]
  refine ⟨rfind_fun ex h who, trivial, ?_⟩
  rcases h.rf who with ⟨hh, hr, hp, hw⟩ | ⟨hh, hr⟩
  · rw [hr, Int.toNat_natCast]
    obtain ⟨_, hq0, hq1, _, _⟩ := h.at hp
    change 0 ≤ (atS l who).seq at hq0
    change (atS l who).seq ≤ _ at hq1
    change _ ∧ (_ → _ ∧ _ ∧ ((seq != (atS l who).seq + 1) = true → _) ∧ ((seq != (atS l who).seq + 1) = false → _))
    have eE := doneE_has (seq := seq) hh
    refine ⟨fun h1 => absurd (of_decide_eq_true h1) (by omega), fun h1 => ⟨(by first | omega | decide | (unfold I64; omega)), (by show I64 ((atS l who).seq + 1); unfold I64; omega), fun h2 => ⟨sh2_t, ?_⟩, fun h2 => ⟨fun h3 => ⟨sh2_t, ?_⟩, fun h3 => ⟨rfl, .inl rfl, (by first | omega | decide | (unfold I64; omega)), ?_⟩⟩⟩⟩
    · have e : doneE l who seq = 190 := by rw [eE, if_pos (by simpa using h2)]
      rw [rDone, no (by rw [e]; decide), e]
      exact post_cell rfl rfl (.inr ⟨sm_dat (by simp) fun i hi => rfl, sm_int rfl, trivial⟩) rfl
    · have e : doneE l who seq = 2 := by rw [eE, if_neg (by simpa using h2), if_pos (of_decide_eq_true h3)]
      rw [rDone, no (by rw [e]; decide), e]
      exact post_cell rfl rfl (.inr ⟨sm_dat (by simp) fun i hi => rfl, sm_int rfl, trivial⟩) rfl
    · have e : doneE l who seq = 0 := by rw [eE, if_neg (by simpa using h2), if_neg (of_decide_eq_false h3)]
      have e2 : doneL l who seq r = l.set (posS l who) ⟨(seAt l (posS l who)).who, seq, r⟩ := by
        unfold doneL; rw [if_pos e]
        show l.set (posS l who) ⟨who, seq, r⟩ = _
        rw [show (seAt l (posS l who)).who = who from hw]
      refine cut_ok (S2 := S_rd7 l (posS l who) seq r) (ent_of [(7, 7), (8, 8), (34, 10)] rfl (tm_cons rfl (sm_same rfl) (tm_cons rfl (sm_ptr rfl) (tm_cons rfl (sm_ptr rfl) (tm_cons rfl (sm_same rfl) (tm_cons rfl (sm_sl rfl (Nat.zero_add _) (by omega) (by omega) (by simp)) tm_nil))))) (hp_cons rfl rfl (sm_same rfl) (hp_cons rfl rfl (sm_same rfl) (hp_cons rfl rfl (sm_arr' (Nat.zero_add _) fun i hi => by unfold cat; rw [if_neg (Nat.not_lt_zero _)]; rfl) hp_nil)))) (rdone_cut hp h8 seq r 0 ?_)
      rintro q rfl
      rw [rDone, e2, e]
      refine post_frz [10] (post_cell rfl rfl (.inr ⟨sm_datr (by rw [List.length_set]) (by simp) fun j hj => .inl ?_, sm_int rfl, trivial⟩) rfl)
      rw [Nat.zero_add]; exact rowD_set seq r hj
  · rw [hr]
    refine ⟨fun h1 => ⟨sh2_t, ?_⟩, fun h1 => absurd (of_decide_eq_false h1) (by omega)⟩
    have e : doneE l who seq = 190 := by unfold doneE; rw [if_pos (.inl hh)]
    rw [rDone, no (by rw [e]; decide), e]
    exact post_cell rfl rfl (.inr ⟨sm_dat (by simp) fun i hi => rfl, sm_int rfl, trivial⟩) rfl
end Go.Bu.W

namespace Go.Bu.W
def w_rbegin : Way := wayQ [0, 1, 4, 5, 6, 7, 9, 15, 20, 27, 40, 54] 62 []
abbrev seW (who : Int) : Ses := ⟨who, 0, rp0⟩
/-- What has come when i were looked at. -/
def outS (l : List Ses) (who : Int) (i : Nat) : List Ses := if posS l who < i then l.take (posS l who) ++ seW who :: (l.take i).drop (posS l who) else l.take i
def I_rb (ex : Bool) (l : List Ses) (x : Int) (i : Nat) : St := { tm := [(0, dSe ex l), (1, .i x), (4, .ptr 4 []), (5, .sl 5 [] 0 (outS l x i).length (outS l x i).length false 14), (6, .sb (decide (posS l x < i))), (7, i64 i)], hp := [(4, .c (.st [zD, .i 0])), (5, .c (.arr (outS l x i).length 14 (rowS (outS l x i))))], seen := [4, 5] }
def I_rbR (l : List Ses) (x : Int) (i : Nat) : St := { tm := [(0, .sl 0 [] 0 l.length l.length false 14), (1, .i x), (4, .ptr 4 []), (5, .sl 5 [] 0 (outS l x i).length (outS l x i).length false 14), (6, .sb (decide (posS l x < i))), (7, i64 i)], hp := [(0, .c (.arr l.length 14 (rowS l))), (4, .c (.st [zD, .i 0])), (5, .c (.arr (outS l x i).length 14 (rowS (outS l x i))))], seen := [0, 4, 5] }

theorem rbegin_A (ex : Bool) (l : List Ses) (who : Int) (K : Nat) (Φ : Ex → St → Prop) :
  (Holds C P 62 [] K Φ (vc C w_rbegin b_rbegin [] (start [dSe ex l, .i who] []) lf)) =
  (((decide (who < (0 : Int))) = true →
 ((W.Sh2) ∧
  (Φ Ex.ret (St.mk [(0, (W.dSe ex l)), (1, (AV.i who)), (4, (AV.ptr 4 [])), (9, (AV.v (Value.bool true)))] [(4, (Blk.c (AV.st [(W.dSe ex l), (AV.i (1 : Int))])))] [4])))) ∧
 ((decide (who < (0 : Int))) = false →
 (Fun W.C W.P 18 [(W.dSe ex l), (AV.i who)] [] (AV.i (W.rfI (W.toLS (W.dSe ex l)) who)) [] ∧
  (True ∧
  (((decide ((W.rfI (W.toLS (W.dSe ex l)) who) ≥ (0 : Int))) = true →
  ((W.Sh2) ∧
   (Φ Ex.ret (St.mk [(0, (W.dSe ex l)), (1, (AV.i who)), (4, (AV.ptr 4 [])), (9, (AV.v (Value.bool false))), (15, (AV.v (Value.bool true)))] [(4, (Blk.c (AV.st [(W.dSe ex l), (AV.i (190 : Int))])))] [4])))) ∧
  ((decide ((W.rfI (W.toLS (W.dSe ex l)) who) ≥ (0 : Int))) = false →
  (((decide ((((List.length l) : Nat) : Int) ≥ (8 : Int))) = true →
   ((W.Sh2) ∧
    (Φ Ex.ret (St.mk [(0, (W.dSe ex l)), (1, (AV.i who)), (4, (AV.ptr 4 [])), (9, (AV.v (Value.bool false))), (15, (AV.v (Value.bool false))), (20, (AV.v (Value.bool true)))] [(4, (Blk.c (AV.st [(W.dSe ex l), (AV.i (2 : Int))])))] [4])))) ∧
   ((decide ((((List.length l) : Nat) : Int) ≥ (8 : Int))) = false →
   (LoopOK W.C W.P 62 [] K (bodyAt b_rbegin [1, 1, 1, 1, 1, 0, 1, 0]) (St.mk [(0, (W.dSe ex l)), (1, (AV.i who)), (4, (AV.ptr 4 [])), (5, (AV.sl 23 [] 0 0 0 true 14)), (6, (AV.v (Value.bool false))), (7, (AV.i (0 : Int))), (9, (AV.v (Value.bool false))), (15, (AV.v (Value.bool false))), (20, (AV.v (Value.bool false)))] [(4, (Blk.c (AV.st [(W.zD), (AV.i (0 : Int))]))), (23, (Blk.c (AV.st [])))] [23, 4]) (fun (e : Ex) (S' : St) => Holds W.C W.P 62 [] K Φ (after W.C w_rbegin b_rbegin [1, 1, 1, 1, 1, 0, 1, 0] [] lf e S'))))))))))) := by kernel_rfl
noncomputable abbrev bd_rbegin_0 : Code := bodyAt (b_rbegin) [1, 1, 1, 1, 1, 0, 1, 0]
theorem ok_rbegin_0 : codeOK bd_rbegin_0 = true := by kernel_rfl
noncomputable abbrev rest_rbegin_0 (K : Nat) (Φ : Ex → St → Prop) : Ex → St → Prop := fun e S' => Holds C P 62 [] K Φ (after C w_rbegin (b_rbegin) [1, 1, 1, 1, 1, 0, 1, 0] [] lf e S')
theorem rbegin_L0 (ex : Bool) (l : List Ses) (x : Int) (i : Nat) (K : Nat) (Φ : Ex → St → Prop) :
  (Holds C P 62 [] K (RoundQ C 62 [] K (I_rb ex l x) (fun i => i ≤ l.length) (fun i => l.length - i) ((fun i => l.length - i) (i)) (rest_rbegin_0 K Φ)) (vc C w_rbegin bd_rbegin_0 [] ((I_rb ex l x) (i)) lf)) =
  (((decide (((i : Nat) : Int) < (((List.length l) : Nat) : Int))) = true →
 (((! (decide ((W.posS l x) < i))) = true →
  ((((0 : Int) ≤ ((i : Nat) : Int)) ∧ (((i : Nat) : Int) < (((List.length l) : Nat) : Int))) ∧
   (((decide ((W.Ses.who (W.seAt l i)) > x)) = true →
   (((((List.length (W.outS l x i)) + 1) * 192) ≤ 140737488355328) ∧
    ((((0 : Int) ≤ ((i : Nat) : Int)) ∧ (((i : Nat) : Int) < (((List.length l) : Nat) : Int))) ∧
    ((((((List.length (W.outS l x i)) + 1) + 1) * 192) ≤ 140737488355328) ∧
    ((I64 (((i + 1) : Nat) : Int)) ∧
    ((RoundQ C 62 [] K (I_rb ex l x) (fun i => i ≤ l.length) (fun i => l.length - i) ((fun i => l.length - i) (i)) (rest_rbegin_0 K Φ)) Ex.normal (St.mk [(0, (W.dSe ex l)), (1, (AV.i x)), (4, (AV.ptr 4 [])), (5, (AV.sl 52 [] 0 (((List.length (W.outS l x i)) + 1) + 1) (((List.length (W.outS l x i)) + 1) + 1) false 14)), (6, (AV.v (Value.bool true))), (7, (AV.i (((i + 1) : Nat) : Int))), (27, (AV.v (Value.bool true))), (40, (AV.v (Value.bool true)))] [(4, (Blk.c (AV.st [(W.zD), (AV.i (0 : Int))]))), (44, (Blk.c (AV.st [(W.seN x)]))), (51, (Blk.c (AV.st [(W.seA (W.seAt l i))]))), (52, (Blk.c (AV.arr (((List.length (W.outS l x i)) + 1) + 1) 14 (cat ((List.length (W.outS l x i)) + 1) (fun (i1 : Nat) => (cat (List.length (W.outS l x i)) (fun (i2 : Nat) => (W.seA (W.seAt (W.outS l x i) (0 + i2)))) (fun (i2 : Nat) => (nthD [(W.seN x)] (0 + i2) (AV.v (Value.tuple (List.toArray []))))) (0 + i1))) (fun (i1 : Nat) => (nthD [(W.seA (W.seAt l i))] (0 + i1) (AV.v (Value.tuple (List.toArray [])))))))))] [52, 51, 45, 44, 4, 5]))))))) ∧
   ((decide ((W.Ses.who (W.seAt l i)) > x)) = false →
   ((((0 : Int) ≤ ((i : Nat) : Int)) ∧ (((i : Nat) : Int) < (((List.length l) : Nat) : Int))) ∧
    (((((List.length (W.outS l x i)) + 1) * 192) ≤ 140737488355328) ∧
    ((I64 (((i + 1) : Nat) : Int)) ∧
    ((RoundQ C 62 [] K (I_rb ex l x) (fun i => i ≤ l.length) (fun i => l.length - i) ((fun i => l.length - i) (i)) (rest_rbegin_0 K Φ)) Ex.normal (St.mk [(0, (W.dSe ex l)), (1, (AV.i x)), (4, (AV.ptr 4 [])), (5, (AV.sl 52 [] 0 ((List.length (W.outS l x i)) + 1) ((List.length (W.outS l x i)) + 1) false 14)), (6, (AV.sb (decide ((W.posS l x) < i)))), (7, (AV.i (((i + 1) : Nat) : Int))), (27, (AV.v (Value.bool true))), (40, (AV.v (Value.bool false)))] [(4, (Blk.c (AV.st [(W.zD), (AV.i (0 : Int))]))), (51, (Blk.c (AV.st [(W.seA (W.seAt l i))]))), (52, (Blk.c (AV.arr ((List.length (W.outS l x i)) + 1) 14 (cat (List.length (W.outS l x i)) (fun (i1 : Nat) => (W.seA (W.seAt (W.outS l x i) (0 + i1)))) (fun (i1 : Nat) => (nthD [(W.seA (W.seAt l i))] (0 + i1) (AV.v (Value.tuple (List.toArray [])))))))))] [52, 51, 4, 5]))))))))) ∧
  ((! (decide ((W.posS l x) < i))) = false →
  ((((0 : Int) ≤ ((i : Nat) : Int)) ∧ (((i : Nat) : Int) < (((List.length l) : Nat) : Int))) ∧
   (((((List.length (W.outS l x i)) + 1) * 192) ≤ 140737488355328) ∧
   ((I64 (((i + 1) : Nat) : Int)) ∧
   ((RoundQ C 62 [] K (I_rb ex l x) (fun i => i ≤ l.length) (fun i => l.length - i) ((fun i => l.length - i) (i)) (rest_rbegin_0 K Φ)) Ex.normal (St.mk [(0, (W.dSe ex l)), (1, (AV.i x)), (4, (AV.ptr 4 [])), (5, (AV.sl 52 [] 0 ((List.length (W.outS l x i)) + 1) ((List.length (W.outS l x i)) + 1) false 14)), (6, (AV.sb (decide ((W.posS l x) < i)))), (7, (AV.i (((i + 1) : Nat) : Int))), (27, (AV.v (Value.bool true))), (40, (AV.v (Value.bool false)))] [(4, (Blk.c (AV.st [(W.zD), (AV.i (0 : Int))]))), (51, (Blk.c (AV.st [(W.seA (W.seAt l i))]))), (52, (Blk.c (AV.arr ((List.length (W.outS l x i)) + 1) 14 (cat (List.length (W.outS l x i)) (fun (i1 : Nat) => (W.seA (W.seAt (W.outS l x i) (0 + i1)))) (fun (i1 : Nat) => (nthD [(W.seA (W.seAt l i))] (0 + i1) (AV.v (Value.tuple (List.toArray [])))))))))] [52, 51, 4, 5])))))))) ∧
 ((decide (((i : Nat) : Int) < (((List.length l) : Nat) : Int))) = false →
 (((! (decide ((W.posS l x) < i))) = true →
  (((((List.length (W.outS l x i)) + 1) * 192) ≤ 140737488355328) ∧
   ((W.Sh2) ∧
   (Φ Ex.ret (St.mk [(0, (W.dSe ex l)), (1, (AV.i x)), (4, (AV.ptr 4 [])), (5, (AV.sl 59 [] 0 ((List.length (W.outS l x i)) + 1) ((List.length (W.outS l x i)) + 1) false 14)), (6, (AV.sb (decide ((W.posS l x) < i)))), (7, (AV.i ((i : Nat) : Int))), (27, (AV.v (Value.bool false))), (54, (AV.v (Value.bool true)))] [(4, (Blk.c (AV.st [(AV.sl 59 [] 0 ((List.length (W.outS l x i)) + 1) ((List.length (W.outS l x i)) + 1) false 14), (AV.i (0 : Int))]))), (58, (Blk.c (AV.st [(W.seN x)]))), (59, (Blk.c (AV.arr ((List.length (W.outS l x i)) + 1) 14 (cat (List.length (W.outS l x i)) (fun (i1 : Nat) => (W.seA (W.seAt (W.outS l x i) (0 + i1)))) (fun (i1 : Nat) => (nthD [(W.seN x)] (0 + i1) (AV.v (Value.tuple (List.toArray [])))))))))] [59, 58, 4, 5]))))) ∧
  ((! (decide ((W.posS l x) < i))) = false →
  ((W.Sh2) ∧
   (Φ Ex.ret (St.mk [(0, (W.dSe ex l)), (1, (AV.i x)), (4, (AV.ptr 4 [])), (5, (AV.sl 5 [] 0 (List.length (W.outS l x i)) (List.length (W.outS l x i)) false 14)), (6, (AV.sb (decide ((W.posS l x) < i)))), (7, (AV.i ((i : Nat) : Int))), (27, (AV.v (Value.bool false))), (54, (AV.v (Value.bool false)))] [(4, (Blk.c (AV.st [(AV.sl 5 [] 0 (List.length (W.outS l x i)) (List.length (W.outS l x i)) false 14), (AV.i (0 : Int))]))), (5, (Blk.c (AV.arr (List.length (W.outS l x i)) 14 (W.rowS (W.outS l x i)))))] [4, 5]))))))) := by kernel_rfl
theorem rbegin_AR (l : List Ses) (who : Int) (K : Nat) (Φ : Ex → St → Prop) :
  (Holds C P 62 [] K Φ (vc C w_rbegin b_rbegin [] (start [.sl 0 [] 0 l.length l.length false 14, .i who] [(0, .c (.arr l.length 14 (rowS l)))]) lf)) =
  (((decide (who < (0 : Int))) = true →
 ((W.Sh2) ∧
  (Φ Ex.ret (St.mk [(0, (AV.sl 0 [] 0 (List.length l) (List.length l) false 14)), (1, (AV.i who)), (4, (AV.ptr 4 [])), (9, (AV.v (Value.bool true)))] [(0, (Blk.c (AV.arr (List.length l) 14 (W.rowS l)))), (4, (Blk.c (AV.st [(AV.sl 0 [] 0 (List.length l) (List.length l) false 14), (AV.i (1 : Int))])))] [4, 0])))) ∧
 ((decide (who < (0 : Int))) = false →
 (Fun W.C W.P 18 [(AV.dat (List.length l) false 14 (fun (i : Nat) => (W.seA (W.seAt l (0 + i))))), (AV.i who)] [] (AV.i (W.rfI (W.toLS (AV.dat (List.length l) false 14 (fun (i : Nat) => (W.seA (W.seAt l (0 + i)))))) who)) [] ∧
  (True ∧
  (((decide ((W.rfI (W.toLS (AV.dat (List.length l) false 14 (fun (i : Nat) => (W.seA (W.seAt l (0 + i)))))) who) ≥ (0 : Int))) = true →
  ((W.Sh2) ∧
   (Φ Ex.ret (St.mk [(0, (AV.sl 0 [] 0 (List.length l) (List.length l) false 14)), (1, (AV.i who)), (4, (AV.ptr 4 [])), (9, (AV.v (Value.bool false))), (15, (AV.v (Value.bool true)))] [(0, (Blk.c (AV.arr (List.length l) 14 (W.rowS l)))), (4, (Blk.c (AV.st [(AV.sl 0 [] 0 (List.length l) (List.length l) false 14), (AV.i (190 : Int))])))] [4, 0])))) ∧
  ((decide ((W.rfI (W.toLS (AV.dat (List.length l) false 14 (fun (i : Nat) => (W.seA (W.seAt l (0 + i)))))) who) ≥ (0 : Int))) = false →
  (((decide ((((List.length l) : Nat) : Int) ≥ (8 : Int))) = true →
   ((W.Sh2) ∧
    (Φ Ex.ret (St.mk [(0, (AV.sl 0 [] 0 (List.length l) (List.length l) false 14)), (1, (AV.i who)), (4, (AV.ptr 4 [])), (9, (AV.v (Value.bool false))), (15, (AV.v (Value.bool false))), (20, (AV.v (Value.bool true)))] [(0, (Blk.c (AV.arr (List.length l) 14 (W.rowS l)))), (4, (Blk.c (AV.st [(AV.sl 0 [] 0 (List.length l) (List.length l) false 14), (AV.i (2 : Int))])))] [4, 0])))) ∧
   ((decide ((((List.length l) : Nat) : Int) ≥ (8 : Int))) = false →
   (LoopOK W.C W.P 62 [] K (bodyAt b_rbegin [1, 1, 1, 1, 1, 0, 1, 0]) (St.mk [(0, (AV.sl 0 [] 0 (List.length l) (List.length l) false 14)), (1, (AV.i who)), (4, (AV.ptr 4 [])), (5, (AV.sl 23 [] 0 0 0 true 14)), (6, (AV.v (Value.bool false))), (7, (AV.i (0 : Int))), (9, (AV.v (Value.bool false))), (15, (AV.v (Value.bool false))), (20, (AV.v (Value.bool false)))] [(0, (Blk.c (AV.arr (List.length l) 14 (W.rowS l)))), (4, (Blk.c (AV.st [(W.zD), (AV.i (0 : Int))]))), (23, (Blk.c (AV.st [])))] [23, 4, 0]) (fun (e : Ex) (S' : St) => Holds W.C W.P 62 [] K Φ (after W.C w_rbegin b_rbegin [1, 1, 1, 1, 1, 0, 1, 0] [] lf e S'))))))))))) := by kernel_rfl
theorem rbegin_L0R (l : List Ses) (x : Int) (i : Nat) (K : Nat) (Φ : Ex → St → Prop) :
  (Holds C P 62 [] K (RoundQ C 62 [] K (I_rbR l x) (fun i => i ≤ l.length) (fun i => l.length - i) ((fun i => l.length - i) (i)) (rest_rbegin_0 K Φ)) (vc C w_rbegin bd_rbegin_0 [] ((I_rbR l x) (i)) lf)) =
  (((decide (((i : Nat) : Int) < (((List.length l) : Nat) : Int))) = true →
 (((! (decide ((W.posS l x) < i))) = true →
  ((((0 : Int) ≤ ((i : Nat) : Int)) ∧ (((i : Nat) : Int) < (((List.length l) : Nat) : Int))) ∧
   (((decide ((W.Ses.who (W.seAt l (0 + i))) > x)) = true →
   (((((List.length (W.outS l x i)) + 1) * 192) ≤ 140737488355328) ∧
    ((((0 : Int) ≤ ((i : Nat) : Int)) ∧ (((i : Nat) : Int) < (((List.length l) : Nat) : Int))) ∧
    ((((((List.length (W.outS l x i)) + 1) + 1) * 192) ≤ 140737488355328) ∧
    ((I64 (((i + 1) : Nat) : Int)) ∧
    ((RoundQ C 62 [] K (I_rbR l x) (fun i => i ≤ l.length) (fun i => l.length - i) ((fun i => l.length - i) (i)) (rest_rbegin_0 K Φ)) Ex.normal (St.mk [(0, (AV.sl 0 [] 0 (List.length l) (List.length l) false 14)), (1, (AV.i x)), (4, (AV.ptr 4 [])), (5, (AV.sl 52 [] 0 (((List.length (W.outS l x i)) + 1) + 1) (((List.length (W.outS l x i)) + 1) + 1) false 14)), (6, (AV.v (Value.bool true))), (7, (AV.i (((i + 1) : Nat) : Int))), (27, (AV.v (Value.bool true))), (40, (AV.v (Value.bool true)))] [(0, (Blk.c (AV.arr (List.length l) 14 (W.rowS l)))), (4, (Blk.c (AV.st [(W.zD), (AV.i (0 : Int))]))), (44, (Blk.c (AV.st [(W.seN x)]))), (51, (Blk.c (AV.st [(W.seA (W.seAt l (0 + i)))]))), (52, (Blk.c (AV.arr (((List.length (W.outS l x i)) + 1) + 1) 14 (cat ((List.length (W.outS l x i)) + 1) (fun (i1 : Nat) => (cat (List.length (W.outS l x i)) (fun (i2 : Nat) => (W.seA (W.seAt (W.outS l x i) (0 + i2)))) (fun (i2 : Nat) => (nthD [(W.seN x)] (0 + i2) (AV.v (Value.tuple (List.toArray []))))) (0 + i1))) (fun (i1 : Nat) => (nthD [(W.seA (W.seAt l (0 + i)))] (0 + i1) (AV.v (Value.tuple (List.toArray [])))))))))] [52, 51, 45, 44, 0, 4, 5]))))))) ∧
   ((decide ((W.Ses.who (W.seAt l (0 + i))) > x)) = false →
   ((((0 : Int) ≤ ((i : Nat) : Int)) ∧ (((i : Nat) : Int) < (((List.length l) : Nat) : Int))) ∧
    (((((List.length (W.outS l x i)) + 1) * 192) ≤ 140737488355328) ∧
    ((I64 (((i + 1) : Nat) : Int)) ∧
    ((RoundQ C 62 [] K (I_rbR l x) (fun i => i ≤ l.length) (fun i => l.length - i) ((fun i => l.length - i) (i)) (rest_rbegin_0 K Φ)) Ex.normal (St.mk [(0, (AV.sl 0 [] 0 (List.length l) (List.length l) false 14)), (1, (AV.i x)), (4, (AV.ptr 4 [])), (5, (AV.sl 52 [] 0 ((List.length (W.outS l x i)) + 1) ((List.length (W.outS l x i)) + 1) false 14)), (6, (AV.sb (decide ((W.posS l x) < i)))), (7, (AV.i (((i + 1) : Nat) : Int))), (27, (AV.v (Value.bool true))), (40, (AV.v (Value.bool false)))] [(0, (Blk.c (AV.arr (List.length l) 14 (W.rowS l)))), (4, (Blk.c (AV.st [(W.zD), (AV.i (0 : Int))]))), (51, (Blk.c (AV.st [(W.seA (W.seAt l (0 + i)))]))), (52, (Blk.c (AV.arr ((List.length (W.outS l x i)) + 1) 14 (cat (List.length (W.outS l x i)) (fun (i1 : Nat) => (W.seA (W.seAt (W.outS l x i) (0 + i1)))) (fun (i1 : Nat) => (nthD [(W.seA (W.seAt l (0 + i)))] (0 + i1) (AV.v (Value.tuple (List.toArray [])))))))))] [52, 51, 0, 4, 5]))))))))) ∧
  ((! (decide ((W.posS l x) < i))) = false →
  ((((0 : Int) ≤ ((i : Nat) : Int)) ∧ (((i : Nat) : Int) < (((List.length l) : Nat) : Int))) ∧
   (((((List.length (W.outS l x i)) + 1) * 192) ≤ 140737488355328) ∧
   ((I64 (((i + 1) : Nat) : Int)) ∧
   ((RoundQ C 62 [] K (I_rbR l x) (fun i => i ≤ l.length) (fun i => l.length - i) ((fun i => l.length - i) (i)) (rest_rbegin_0 K Φ)) Ex.normal (St.mk [(0, (AV.sl 0 [] 0 (List.length l) (List.length l) false 14)), (1, (AV.i x)), (4, (AV.ptr 4 [])), (5, (AV.sl 52 [] 0 ((List.length (W.outS l x i)) + 1) ((List.length (W.outS l x i)) + 1) false 14)), (6, (AV.sb (decide ((W.posS l x) < i)))), (7, (AV.i (((i + 1) : Nat) : Int))), (27, (AV.v (Value.bool true))), (40, (AV.v (Value.bool false)))] [(0, (Blk.c (AV.arr (List.length l) 14 (W.rowS l)))), (4, (Blk.c (AV.st [(W.zD), (AV.i (0 : Int))]))), (51, (Blk.c (AV.st [(W.seA (W.seAt l (0 + i)))]))), (52, (Blk.c (AV.arr ((List.length (W.outS l x i)) + 1) 14 (cat (List.length (W.outS l x i)) (fun (i1 : Nat) => (W.seA (W.seAt (W.outS l x i) (0 + i1)))) (fun (i1 : Nat) => (nthD [(W.seA (W.seAt l (0 + i)))] (0 + i1) (AV.v (Value.tuple (List.toArray [])))))))))] [52, 51, 0, 4, 5])))))))) ∧
 ((decide (((i : Nat) : Int) < (((List.length l) : Nat) : Int))) = false →
 (((! (decide ((W.posS l x) < i))) = true →
  (((((List.length (W.outS l x i)) + 1) * 192) ≤ 140737488355328) ∧
   ((W.Sh2) ∧
   (Φ Ex.ret (St.mk [(0, (AV.sl 0 [] 0 (List.length l) (List.length l) false 14)), (1, (AV.i x)), (4, (AV.ptr 4 [])), (5, (AV.sl 59 [] 0 ((List.length (W.outS l x i)) + 1) ((List.length (W.outS l x i)) + 1) false 14)), (6, (AV.sb (decide ((W.posS l x) < i)))), (7, (AV.i ((i : Nat) : Int))), (27, (AV.v (Value.bool false))), (54, (AV.v (Value.bool true)))] [(0, (Blk.c (AV.arr (List.length l) 14 (W.rowS l)))), (4, (Blk.c (AV.st [(AV.sl 59 [] 0 ((List.length (W.outS l x i)) + 1) ((List.length (W.outS l x i)) + 1) false 14), (AV.i (0 : Int))]))), (58, (Blk.c (AV.st [(W.seN x)]))), (59, (Blk.c (AV.arr ((List.length (W.outS l x i)) + 1) 14 (cat (List.length (W.outS l x i)) (fun (i1 : Nat) => (W.seA (W.seAt (W.outS l x i) (0 + i1)))) (fun (i1 : Nat) => (nthD [(W.seN x)] (0 + i1) (AV.v (Value.tuple (List.toArray [])))))))))] [59, 58, 0, 4, 5]))))) ∧
  ((! (decide ((W.posS l x) < i))) = false →
  ((W.Sh2) ∧
   (Φ Ex.ret (St.mk [(0, (AV.sl 0 [] 0 (List.length l) (List.length l) false 14)), (1, (AV.i x)), (4, (AV.ptr 4 [])), (5, (AV.sl 5 [] 0 (List.length (W.outS l x i)) (List.length (W.outS l x i)) false 14)), (6, (AV.sb (decide ((W.posS l x) < i)))), (7, (AV.i ((i : Nat) : Int))), (27, (AV.v (Value.bool false))), (54, (AV.v (Value.bool false)))] [(0, (Blk.c (AV.arr (List.length l) 14 (W.rowS l)))), (4, (Blk.c (AV.st [(AV.sl 5 [] 0 (List.length (W.outS l x i)) (List.length (W.outS l x i)) false 14), (AV.i (0 : Int))]))), (5, (Blk.c (AV.arr (List.length (W.outS l x i)) 14 (W.rowS (W.outS l x i)))))] [0, 4, 5]))))))) := by kernel_rfl

theorem sm_arrs {m : Nat → Option Nat} {n n' e : Nat} {f g : Nat → AV} (hn : n = n') (h : ∀ i, i < n → f i = g i ∨ sim (fun _ => none) (f i) (g i)) : simR m (.arr n e f) (.arr n' e g) := .inr ⟨hn, rfl, h⟩
theorem nthD_one {y d : AV} {k : Nat} (h : k = 0) : nthD [y] k d = y := by subst h; rfl
theorem catS {out : List Ses} {z : Ses} {y d : AV} (hy : y = seA z ∨ sim (fun _ => none) y (seA z)) {k : Nat} (hk : k < out.length + 1) : cat out.length (fun i => seA (seAt out i)) (fun i => nthD [y] i d) k = seA (seAt (out ++ [z]) k) ∨ sim (fun _ => none) (cat out.length (fun i => seA (seAt out i)) (fun i => nthD [y] i d) k) (seA (seAt (out ++ [z]) k)) := by
  unfold cat
  rw [seAt_app]
  by_cases h : k < out.length
  · rw [if_pos h, if_pos h]; exact .inl rfl
  · rw [if_neg h, if_neg h]; dsimp only; rw [nthD_one (show k - out.length = 0 by omega), show k - out.length = 0 by omega]; exact hy
theorem catSS {out : List Ses} {z u : Ses} {y d e : AV} (hy : y = seA z ∨ sim (fun _ => none) y (seA z)) {k : Nat} (hk : k < out.length + 1 + 1) :
    cat (out.length + 1) (fun i => cat out.length (fun i => seA (seAt out i)) (fun i => nthD [y] i d) i) (fun i => nthD [seA u] i e) k = seA (seAt (out ++ [z] ++ [u]) k) ∨ sim (fun _ => none) (cat (out.length + 1) (fun i => cat out.length (fun i => seA (seAt out i)) (fun i => nthD [y] i d) i) (fun i => nthD [seA u] i e) k) (seA (seAt (out ++ [z] ++ [u]) k)) := by
  rw [show cat (out.length + 1) (fun i => cat out.length (fun i => seA (seAt out i)) (fun i => nthD [y] i d) i) (fun i => nthD [seA u] i e) k = if k < out.length + 1 then cat out.length (fun i => seA (seAt out i)) (fun i => nthD [y] i d) k else nthD [seA u] (k - (out.length + 1)) e from rfl]
  rw [seAt_app (out ++ [z])]
  have hl : (out ++ [z]).length = out.length + 1 := by simp
  rw [hl]
  by_cases h : k < out.length + 1
  · rw [if_pos h, if_pos h]; exact catS hy h
  · rw [if_neg h, if_neg h, nthD_one (show k - (out.length + 1) = 0 by omega), show k - (out.length + 1) = 0 by omega]; exact .inl rfl
theorem take_nx {l : List Ses} {i : Nat} (hi : i < l.length) : l.take (i + 1) = l.take i ++ [seAt l i] := by
  rw [List.take_succ_eq_append_getElem hi, seAt_lt hi]
theorem ins_td {α : Type} (x : α) : ∀ (l : List α) (p : Nat), p ≤ l.length → l.insertIdx p x = l.take p ++ x :: l.drop p
  | l, 0, _ => by simp
  | [], p + 1, h => by simp at h
  | a :: l, p + 1, h => by
    have := ins_td x l p (by simpa using h)
    simp [this]
theorem outS_A {l : List Ses} {who : Int} {i : Nat} (hi : i < l.length) (hp : posS l who = i) : outS l who (i + 1) = outS l who i ++ [seW who] ++ [seAt l i] := by
  unfold outS
  rw [hp, if_pos (by omega), if_neg (by omega), take_nx hi, List.drop_append_of_le_length (by simp; omega), List.drop_of_length_le (by simp; omega)]
  simp
theorem outS_B {l : List Ses} {who : Int} {i : Nat} (hi : i < l.length) (hp : i < posS l who) : outS l who (i + 1) = outS l who i ++ [seAt l i] := by
  unfold outS
  rw [if_neg (by omega), if_neg (by omega), take_nx hi]
theorem outS_C {l : List Ses} {who : Int} {i : Nat} (hi : i < l.length) (hp : posS l who < i) : outS l who (i + 1) = outS l who i ++ [seAt l i] := by
  unfold outS
  rw [if_pos (by omega), if_pos hp, take_nx hi, List.drop_append_of_le_length (by simp; omega)]
  simp
theorem outS_len {l : List Ses} {who : Int} {i : Nat} (hi : i ≤ l.length) : (outS l who i).length ≤ i + 1 := by
  unfold outS
  split <;> simp <;> omega
theorem outS_end {l : List Ses} {who : Int} (hp : posS l who ≤ l.length) : l.insertIdx (posS l who) (seW who) = if posS l who < l.length then outS l who l.length else outS l who l.length ++ [seW who] := by
  rw [ins_td _ _ _ hp]
  unfold outS
  by_cases h : posS l who < l.length
  · rw [if_pos h, if_pos h, List.take_length]
  · rw [if_neg h, if_neg h, List.take_length, show posS l who = l.length by omega]; simp
/-- Where a client that is not there belongs. -/
theorem pos_of {l : List Ses} (h : VS l) {who : Int} (hh : hasS l who = false) {i : Nat} (hi : i < l.length) : (who < (seAt l i).who → posS l who ≤ i) ∧ (¬ who < (seAt l i).who → i < posS l who) := by
  obtain ⟨h1, h2, h3, h4⟩ := bs_spec (mono_W h.1 who)
  refine ⟨fun hw => Nat.le_of_not_lt fun hlt => ?_, fun hw => Nat.lt_of_not_le fun hle => ?_⟩
  · have := cmpI_lt.1 (h2 i hlt)
    have e : (l.getD i se0).who = (seAt l i).who := rfl
    omega
  · have h5 := h3 i hle hi
    have e : (l.getD i se0).who = (seAt l i).who := rfl
    have hne : (seAt l i).who ≠ who := fun he => by rw [(h.hit hi he).1] at hh; cases hh
    have : ¬ cW who (l.getD i se0) < 0 := by omega
    exact this (cmpI_lt.2 (by omega))
theorem sm_w {m : Nat → Option Nat} (who : Int) : seN who = seA (seW who) ∨ sim m (seN who) (seA (seW who)) := .inr (sm_seN who)
theorem VS.rf_no {l : List Ses} (h : VS l) {who : Int} (h2 : decide (rfI l who ≥ 0) = false) : hasS l who = false := by
  rcases h.rf who with ⟨_, hr, _⟩ | ⟨hh, hr⟩
  · rw [hr] at h2; simp at h2
  · exact hh
theorem begE_zero {l : List Ses} {who : Int} (h : ¬ who < 0) (hh : hasS l who = false) (h8 : ¬ l.length = 8) : begE l who = 0 ∧ begL l who = l.insertIdx (posS l who) (seW who) := by
  have : begE l who = 0 := by unfold begE; rw [if_neg h, hh, if_neg (by simp), if_neg h8]
  exact ⟨this, by unfold begL; rw [if_pos this]⟩
theorem beg_no {l : List Ses} {who : Int} (hn : begE l who ≠ 0) : begL l who = l := by unfold begL; rw [if_neg hn]
theorem rbegin_fun {l : List Ses} (ex : Bool) (h : VS l) (who : Int) : Fun C P F_rbegin [dSe ex l, .i who] [] (rBeg l who) [] := by
  refine in_rbegin (W := w_rbegin) rfl 0 (by simp) rfl (fun id h => absurd rfl h) ?_
  refine of_eq (rbegin_A ex l who 0 _) ?_
  rw [toSeL]
  have h8 := h.2.2
  refine ⟨fun h1 => ⟨sh2_t, ?_⟩, fun h1 => ⟨rfind_fun ex h who, trivial, fun h2 => ⟨sh2_t, ?_⟩, fun h2 => ⟨fun h3 => ⟨sh2_t, ?_⟩, fun h3 => ?_⟩⟩⟩
  · have e : begE l who = 1 := by unfold begE; rw [if_pos (of_decide_eq_true h1)]
    rw [rBeg, beg_no (by rw [e]; decide), e]
    exact post_cell rfl rfl (.inr ⟨sm_dat (by simp) fun i hi => rfl, sm_int rfl, trivial⟩) rfl
  all_goals have h1 := of_decide_eq_false h1
  · have hh : hasS l who = true := by
      rcases h.rf who with ⟨hh, _⟩ | ⟨_, hr⟩
      · exact hh
      · rw [hr] at h2; simp at h2
    have e : begE l who = 190 := by unfold begE; rw [if_neg h1, hh]; rfl
    rw [rBeg, beg_no (by rw [e]; decide), e]
    exact post_cell rfl rfl (.inr ⟨sm_dat (by simp) fun i hi => rfl, sm_int rfl, trivial⟩) rfl
  all_goals have hh := h.rf_no h2
  · have h3 := of_decide_eq_true h3
    have e : begE l who = 2 := by unfold begE; rw [if_neg h1, hh, if_neg (by simp), if_pos (by omega)]
    rw [rBeg, beg_no (by rw [e]; decide), e]
    exact post_cell rfl rfl (.inr ⟨sm_dat (by simp) fun i hi => rfl, sm_int rfl, trivial⟩) rfl
  have h3 := of_decide_eq_false h3
  obtain ⟨e1, e2⟩ := begE_zero h1 hh (by omega)
  rw [rBeg, e1, e2]
  refine loop_inv (W := w_rbegin) ctx mixed ok_rbegin_0 (I_rb ex l who) (fun i => i ≤ l.length) (fun i => l.length - i) 0 (Nat.zero_le _) ?_ fun i hi => ?_
  · refine ent_of [(4, 4), (23, 5)] rfl (tm_cons rfl (sm_same rfl) (tm_cons rfl (sm_same rfl) (tm_cons rfl (sm_ptr rfl) (tm_cons rfl (sm_sl rfl rfl (Nat.le_refl _) (Nat.le_refl _) (by simp)) (tm_cons rfl (sm_b rfl) (tm_cons rfl (sm_same rfl) tm_nil)))))) (hp_cons rfl rfl (sm_same rfl) (hp_cons rfl rfl (sm_row rfl rfl rfl fun i x hx => by cases i <;> cases hx) hp_nil))
  have hoi := outS_len (who := who) hi
  refine of_eq (rbegin_L0 ex l who i 0 _) ?_
  simp only [Nat.zero_add]
  refine ⟨fun g1 => have g0 := of_decide_eq_true g1; ⟨fun g2 => ⟨(by first | omega | decide | (unfold I64; omega)), fun g3 => ⟨(by first | omega | decide | (unfold I64; omega)), (by first | omega | decide | (unfold I64; omega)), (by first | omega | decide | (unfold I64; omega)), (by first | omega | decide | (unfold I64; omega)), ?_⟩, fun g3 => ⟨(by first | omega | decide | (unfold I64; omega)), (by first | omega | decide | (unfold I64; omega)), (by first | omega | decide | (unfold I64; omega)), ?_⟩⟩, fun g2 => ⟨(by first | omega | decide | (unfold I64; omega)), (by first | omega | decide | (unfold I64; omega)), (by first | omega | decide | (unfold I64; omega)), ?_⟩⟩, fun g1 => ⟨fun g2 => ⟨(by first | omega | decide | (unfold I64; omega)), sh2_t, ?_⟩, fun g2 => ⟨sh2_t, ?_⟩⟩⟩
  · have g1 := of_decide_eq_true g1
    have g2 := of_decide_eq_false (bnt g2)
    have hlt : i < l.length := by omega
    have hp : posS l who = i := by have := (pos_of h hh hlt).1 (of_decide_eq_true g3); omega
    have e := outS_A hlt hp
    refine round_end (i + 1) (by omega) (ent_of [(4, 4), (52, 5)] rfl (tm_cons rfl (sm_same rfl) (tm_cons rfl (sm_same rfl) (tm_cons rfl (sm_ptr rfl) (tm_cons rfl (sm_sl rfl (by rw [e]; simp) (by rw [e]; simp) (by rw [e]; simp) (by simp)) (tm_cons rfl (sm_b (by rw [decide_eq_true (show posS l who < i + 1 by omega)])) (tm_cons rfl (sm_same rfl) tm_nil)))))) (hp_cons rfl rfl (sm_same rfl) (hp_cons rfl rfl (sm_arrs (by rw [e]; simp) fun k hk => by rw [e]; exact catSS (sm_w who) hk) hp_nil))) (by first | omega | decide | (unfold I64; omega))
  · have g1 := of_decide_eq_true g1
    have hlt : i < l.length := by omega
    have hp := (pos_of h hh hlt).2 (of_decide_eq_false g3)
    have e := outS_B hlt hp
    refine round_end (i + 1) (by omega) (ent_of [(4, 4), (52, 5)] rfl (tm_cons rfl (sm_same rfl) (tm_cons rfl (sm_same rfl) (tm_cons rfl (sm_ptr rfl) (tm_cons rfl (sm_sl rfl (by rw [e]; simp) (by rw [e]; simp) (by rw [e]; simp) (by simp)) (tm_cons rfl (sm_sb (by rw [decide_eq_false (show ¬ posS l who < i by omega), decide_eq_false (show ¬ posS l who < i + 1 by omega)])) (tm_cons rfl (sm_same rfl) tm_nil)))))) (hp_cons rfl rfl (sm_same rfl) (hp_cons rfl rfl (sm_arrs (by rw [e]; simp) fun k hk => by rw [e]; exact catS (.inl rfl) hk) hp_nil))) (by first | omega | decide | (unfold I64; omega))
  · have g1 := of_decide_eq_true g1
    have g2 := of_decide_eq_true (bnf g2)
    have hlt : i < l.length := by omega
    have e := outS_C hlt g2
    refine round_end (i + 1) (by omega) (ent_of [(4, 4), (52, 5)] rfl (tm_cons rfl (sm_same rfl) (tm_cons rfl (sm_same rfl) (tm_cons rfl (sm_ptr rfl) (tm_cons rfl (sm_sl rfl (by rw [e]; simp) (by rw [e]; simp) (by rw [e]; simp) (by simp)) (tm_cons rfl (sm_sb (by rw [decide_eq_true g2, decide_eq_true (show posS l who < i + 1 by omega)])) (tm_cons rfl (sm_same rfl) tm_nil)))))) (hp_cons rfl rfl (sm_same rfl) (hp_cons rfl rfl (sm_arrs (by rw [e]; simp) fun k hk => by rw [e]; exact catS (.inl rfl) hk) hp_nil))) (by first | omega | decide | (unfold I64; omega))
  · have g1 := of_decide_eq_false g1
    have g2 := of_decide_eq_false (bnt g2)
    obtain rfl : i = l.length := by omega
    have e := outS_end (h.pos_le who)
    rw [if_neg g2] at e
    rw [e]
    refine post_frz [59] (post_cell rfl rfl (.inr ⟨sm_datr (by simp) (by simp) fun k hk => ?_, sm_int rfl, trivial⟩) rfl)
    simp only [Nat.zero_add]
    exact catS (sm_w who) hk
  · have g1 := of_decide_eq_false g1
    have g2 := of_decide_eq_true (bnf g2)
    obtain rfl : i = l.length := by omega
    have e := outS_end (h.pos_le who)
    rw [if_pos g2] at e
    rw [e]
    refine post_frz [5] (post_cell rfl rfl (.inr ⟨sm_datr rfl (by simp) fun k hk => .inl (by rw [Nat.zero_add]), sm_int rfl, trivial⟩) rfl)

theorem row_post {N a id idr m m' n n' c e : Nat} {S : St} {ex : Bool} {g g' : Nat → AV} {y q : Int} (h : look S.tm a = some (.ptr id [])) (hb : look S.hp id = some (.c (.st [.sl idr [] 0 n c ex 14, .i y]))) (hr : look S.hp idr = some (.c (.arr m e g)))
    (hn : n = n') (hc : n' ≤ c) (hm : m = m') (hg : ∀ i, i < m → g i = g' i ∨ sim (fun _ => none) (g i) (g' i)) (hy : y = q) (hno : namesOK [(0, 0), (idr, 1), (id, 2)] 1 S.seen [0, 1, 2] [(1, Blk.c (AV.arr m' e g')), (2, .c (.st [.sl 1 [] 0 n' n' false 14, .i q]))] = true) (hid : look [(0, 0), (idr, 1), (id, 2)] id = some 2) (hidr : look [(0, 0), (idr, 1), (id, 2)] idr = some 1)
    (hp1 : pre? [(0, 0), (idr, 1), (id, 2)] 1 = some idr) (hp2 : pre? [(0, 0), (idr, 1), (id, 2)] 2 = some id) :
    FunPost C N 1 [.cell a 28] (.st [.sl 1 [] 0 n' n' false 14, .i q]) [(1, .c (.arr m' e g'))] .ret S := by
  refine funPost_of (r' := .st [.sl 1 [] 0 n' n' false 14, .i q]) (S2 := { tm := [(a, .ptr 2 [])], hp := [(1, .c (.arr m' e g')), (2, .c (.st [.sl 1 [] 0 n' n' false 14, .i q]))], seen := [0, 1, 2] }) (by simp)
    (ent_of [(0, 0), (idr, 1), (id, 2)] hno (tm_cons h (sm_ptr hid) tm_nil) (hp_cons hp1 hr (sm_arrs hm hg) (hp_cons hp2 hb (.inr ⟨sm_sl hidr hn (Nat.le_of_eq hn) hc (by simp), sm_int hy, trivial⟩) hp_nil))) ?_ (.inr ⟨.inr ⟨rfl, rfl, rfl, rfl, Nat.le_refl _, Nat.le_refl _, by simp, rfl⟩, sm_int rfl, trivial⟩) fun id b hb => ?_
  · have hf : fitsT C 28 (.st [.sl 1 [] 0 n' n' false 14, .i q]) = true := by rfl
    simp [resAV, resAll, resOne, look, Nat.beq_refl, AV.sub, hf]
  · have hid : id = 1 := look_one.1 (by rw [hb]; simp)
    subst hid
    simpa [look] using hb
/-- The list that was handed on is given back. -/
theorem row_back {N a id n e : Nat} {S : St} {g : Nat → AV} {y q : Int} (h : look S.tm a = some (.ptr id [])) (hb : look S.hp id = some (.c (.st [.sl 0 [] 0 n n false 14, .i y]))) (hr : look S.hp 0 = some (.c (.arr n e g))) (hg : (AV.arr n e g).noid = true)
    (hy : y = q) (hno : namesOK [(0, 0), (id, 2)] 1 S.seen [0, 2] [(0, Blk.c (AV.arr n e g)), (2, .c (.st [.sl 0 [] 0 n n false 14, .i q]))] = true) (hid : look [(0, 0), (id, 2)] id = some 2) (hp2 : pre? [(0, 0), (id, 2)] 2 = some id) :
    FunPost C N 1 [.cell a 28] (.st [.sl 0 [] 0 n n false 14, .i q]) [(0, .c (.arr n e g))] .ret S := by
  refine funPost_of (r' := .st [.sl 0 [] 0 n n false 14, .i q]) (S2 := { tm := [(a, .ptr 2 [])], hp := [(0, .c (.arr n e g)), (2, .c (.st [.sl 0 [] 0 n n false 14, .i q]))], seen := [0, 2] }) (by simp)
    (ent_of [(0, 0), (id, 2)] hno (tm_cons h (sm_ptr hid) tm_nil) (hp_cons rfl hr (sm_same hg) (hp_cons hp2 hb (.inr ⟨.inr ⟨rfl, rfl, rfl, rfl, Nat.le_refl _, Nat.le_refl _, by simp, rfl⟩, sm_int hy, trivial⟩) hp_nil))) ?_ (.inr ⟨.inr ⟨rfl, rfl, rfl, rfl, Nat.le_refl _, Nat.le_refl _, by simp, rfl⟩, sm_int rfl, trivial⟩) fun id b hb => ?_
  · have hf : fitsT C 28 (.st [.sl 0 [] 0 n n false 14, .i q]) = true := by rfl
    simp [resAV, resAll, resOne, look, Nat.beq_refl, AV.sub, hf]
  · have hid : id = 0 := look_one.1 (by rw [hb]; simp)
    subst hid
    simpa [look] using hb
abbrev rwA (l : List Ses) (e : Int) : AV := .st [.sl 1 [] 0 l.length l.length false 14, .i e]
abbrev rwH (l : List Ses) : List (Nat × Blk) := [(1, .c (.arr l.length 14 (rowS l)))]
theorem name01 {g : FuncId} {args : List AV} {l : List Ses} {e : Int} (h : Fun C P g args [(0, .c (.arr l.length 14 (rowS l)))] (.st [.sl 0 [] 0 l.length l.length false 14, .i e]) [(0, .c (.arr l.length 14 (rowS l)))]) :
    Fun C P g args [(0, .c (.arr l.length 14 (rowS l)))] (rwA l e) (rwH l) :=
  fun_name h rfl (.inr ⟨.inr ⟨rfl, rfl, rfl, rfl, Nat.le_refl _, Nat.le_refl _, by simp, rfl⟩, sm_int rfl, trivial⟩) (sm_same rfl)
theorem rbeginR_fun {l : List Ses} (h : VS l) (who : Int) : Fun C P F_rbegin [.sl 0 [] 0 l.length l.length false 14, .i who] [(0, .c (.arr l.length 14 (rowS l)))] (rwA (begL l who) (begE l who)) (rwH (begL l who)) := by
  have h8 := h.2.2
  have rf : ∀ {T : Prop}, (hasS l who = true → T) → (hasS l who = false → rfI l who = -1 → T) → T := fun a b => by
    rcases h.rf who with ⟨hh, _⟩ | ⟨hh, hr⟩
    · exact a hh
    · exact b hh hr
  have fd : Fun C P F_rfind [AV.dat l.length false 14 (fun i => seA (seAt l i)), .i who] [] (.i (rfI l who)) [] := rfind_fun false h who
  by_cases e0 : begE l who = 0
  · have e1 : ¬ who < 0 := fun hw => by unfold begE at e0; rw [if_pos hw] at e0; cases e0
    have hh : hasS l who = false := by
      cases hh : hasS l who with
      | false => rfl
      | true => unfold begE at e0; rw [if_neg e1, hh] at e0; cases e0
    have e3 : ¬ l.length = 8 := fun h3 => by unfold begE at e0; rw [if_neg e1, hh, if_neg (by simp), if_pos h3] at e0; cases e0
    have e2 : begL l who = l.insertIdx (posS l who) (seW who) := by unfold begL; rw [if_pos e0]
    rw [e0, e2]
    refine in_rbegin (W := w_rbegin) rfl 1 (by simp) rfl one_id ?_
    refine of_eq (rbegin_AR l who 1 _) ?_
    simp only [Nat.zero_add]
    rw [toSeL]
    refine ⟨fun h1 => absurd (of_decide_eq_true h1) e1, fun h1 => ⟨fd, trivial, fun h2 => ?_, fun h2 => ⟨fun h3 => ?_, fun h3 => ?_⟩⟩⟩
    · rcases h.rf who with ⟨ha, _⟩ | ⟨_, hr⟩
      · rw [hh] at ha; cases ha
      · rw [hr] at h2; simp at h2
    · have := of_decide_eq_true h3; omega
    refine loop_inv (W := w_rbegin) ctx mixed ok_rbegin_0 (I_rbR l who) (fun i => i ≤ l.length) (fun i => l.length - i) 0 (Nat.zero_le _) ?_ fun i hi => ?_
    · refine ent_of [(0, 0), (4, 4), (23, 5)] rfl (tm_cons rfl (sm_sl rfl rfl (Nat.le_refl _) (Nat.le_refl _) (fun h => ⟨h, rfl⟩)) (tm_cons rfl (sm_same rfl) (tm_cons rfl (sm_ptr rfl) (tm_cons rfl (sm_sl rfl rfl (Nat.le_refl _) (Nat.le_refl _) (by simp)) (tm_cons rfl (sm_b rfl) (tm_cons rfl (sm_same rfl) tm_nil)))))) (hp_cons rfl rfl (sm_same rfl) (hp_cons rfl rfl (sm_same rfl) (hp_cons rfl rfl (sm_row rfl rfl rfl fun i x hx => by cases i <;> cases hx) hp_nil)))
    have hoi := outS_len (who := who) hi
    refine of_eq (rbegin_L0R l who i 1 _) ?_
    simp only [Nat.zero_add]
    refine ⟨fun g1 => have g0 := of_decide_eq_true g1; ⟨fun g2 => ⟨(by first | omega | decide | (unfold I64; omega)), fun g3 => ⟨(by first | omega | decide | (unfold I64; omega)), (by first | omega | decide | (unfold I64; omega)), (by first | omega | decide | (unfold I64; omega)), (by first | omega | decide | (unfold I64; omega)), ?_⟩, fun g3 => ⟨(by first | omega | decide | (unfold I64; omega)), (by first | omega | decide | (unfold I64; omega)), (by first | omega | decide | (unfold I64; omega)), ?_⟩⟩, fun g2 => ⟨(by first | omega | decide | (unfold I64; omega)), (by first | omega | decide | (unfold I64; omega)), (by first | omega | decide | (unfold I64; omega)), ?_⟩⟩, fun g1 => ⟨fun g2 => ⟨(by first | omega | decide | (unfold I64; omega)), sh2_t, ?_⟩, fun g2 => ⟨sh2_t, ?_⟩⟩⟩
    · have g1 := of_decide_eq_true g1
      have g2 := of_decide_eq_false (bnt g2)
      have hlt : i < l.length := by omega
      have hp : posS l who = i := by have := (pos_of h hh hlt).1 (of_decide_eq_true g3); omega
      have e := outS_A hlt hp
      refine round_end (i + 1) (by omega) (ent_of [(0, 0), (4, 4), (52, 5)] rfl (tm_cons rfl (sm_sl rfl rfl (Nat.le_refl _) (Nat.le_refl _) (fun h => ⟨h, rfl⟩)) (tm_cons rfl (sm_same rfl) (tm_cons rfl (sm_ptr rfl) (tm_cons rfl (sm_sl rfl (by rw [e]; simp) (by rw [e]; simp) (by rw [e]; simp) (by simp)) (tm_cons rfl (sm_b (by rw [decide_eq_true (show posS l who < i + 1 by omega)])) (tm_cons rfl (sm_same rfl) tm_nil)))))) (hp_cons rfl rfl (sm_same rfl) (hp_cons rfl rfl (sm_same rfl) (hp_cons rfl rfl (sm_arrs (by rw [e]; simp) fun k hk => by rw [e]; exact catSS (sm_w who) hk) hp_nil)))) (by first | omega | decide | (unfold I64; omega))
    · have g1 := of_decide_eq_true g1
      have hlt : i < l.length := by omega
      have hp := (pos_of h hh hlt).2 (of_decide_eq_false g3)
      have e := outS_B hlt hp
      refine round_end (i + 1) (by omega) (ent_of [(0, 0), (4, 4), (52, 5)] rfl (tm_cons rfl (sm_sl rfl rfl (Nat.le_refl _) (Nat.le_refl _) (fun h => ⟨h, rfl⟩)) (tm_cons rfl (sm_same rfl) (tm_cons rfl (sm_ptr rfl) (tm_cons rfl (sm_sl rfl (by rw [e]; simp) (by rw [e]; simp) (by rw [e]; simp) (by simp)) (tm_cons rfl (sm_sb (by rw [decide_eq_false (show ¬ posS l who < i by omega), decide_eq_false (show ¬ posS l who < i + 1 by omega)])) (tm_cons rfl (sm_same rfl) tm_nil)))))) (hp_cons rfl rfl (sm_same rfl) (hp_cons rfl rfl (sm_same rfl) (hp_cons rfl rfl (sm_arrs (by rw [e]; simp) fun k hk => by rw [e]; exact catS (.inl rfl) hk) hp_nil)))) (by first | omega | decide | (unfold I64; omega))
    · have g1 := of_decide_eq_true g1
      have g2 := of_decide_eq_true (bnf g2)
      have hlt : i < l.length := by omega
      have e := outS_C hlt g2
      refine round_end (i + 1) (by omega) (ent_of [(0, 0), (4, 4), (52, 5)] rfl (tm_cons rfl (sm_sl rfl rfl (Nat.le_refl _) (Nat.le_refl _) (fun h => ⟨h, rfl⟩)) (tm_cons rfl (sm_same rfl) (tm_cons rfl (sm_ptr rfl) (tm_cons rfl (sm_sl rfl (by rw [e]; simp) (by rw [e]; simp) (by rw [e]; simp) (by simp)) (tm_cons rfl (sm_sb (by rw [decide_eq_true g2, decide_eq_true (show posS l who < i + 1 by omega)])) (tm_cons rfl (sm_same rfl) tm_nil)))))) (hp_cons rfl rfl (sm_same rfl) (hp_cons rfl rfl (sm_same rfl) (hp_cons rfl rfl (sm_arrs (by rw [e]; simp) fun k hk => by rw [e]; exact catS (.inl rfl) hk) hp_nil)))) (by first | omega | decide | (unfold I64; omega))
    · have g1 := of_decide_eq_false g1
      have g2 := of_decide_eq_false (bnt g2)
      obtain rfl : i = l.length := by omega
      have e := outS_end (h.pos_le who)
      rw [if_neg g2] at e
      rw [e]
      exact row_post rfl rfl rfl (by simp) (by simp) (by simp) (fun k hk => by simpa only [Nat.zero_add] using catS (sm_w who) hk) rfl rfl rfl rfl rfl rfl
    · have g1 := of_decide_eq_false g1
      have g2 := of_decide_eq_true (bnf g2)
      obtain rfl : i = l.length := by omega
      have e := outS_end (h.pos_le who)
      rw [if_pos g2] at e
      rw [e]
      exact row_post rfl rfl rfl rfl (Nat.le_refl _) rfl (fun k hk => .inl rfl) rfl rfl rfl rfl rfl rfl

  · rw [beg_no e0]
    refine name01 ?_
    refine in_rbegin (W := w_rbegin) rfl 1 (by simp) rfl one_id ?_
    refine of_eq (rbegin_AR l who 1 _) ?_
    simp only [Nat.zero_add]
    rw [toSeL]
    refine ⟨fun h1 => ⟨sh2_t, ?_⟩, fun h1 => ⟨fd, trivial, fun h2 => ⟨sh2_t, ?_⟩, fun h2 => ⟨fun h3 => ⟨sh2_t, ?_⟩, fun h3 => ?_⟩⟩⟩
    · have e : begE l who = 1 := by unfold begE; rw [if_pos (of_decide_eq_true h1)]
      exact row_back rfl rfl rfl rfl e.symm rfl rfl rfl
    all_goals have h1 := of_decide_eq_false h1
    · have e : begE l who = 190 := by
        refine rf (fun hh => ?_) fun _ hr => ?_
        · unfold begE; rw [if_neg h1, hh]; rfl
        · rw [hr] at h2; simp at h2
      exact row_back rfl rfl rfl rfl e.symm rfl rfl rfl
    all_goals have hh := h.rf_no h2
    · have h3 := of_decide_eq_true h3
      have e : begE l who = 2 := by unfold begE; rw [if_neg h1, hh, if_neg (by simp), if_pos (by omega)]
      exact row_back rfl rfl rfl rfl e.symm rfl rfl rfl
    · exact absurd (begE_zero h1 hh (by have := of_decide_eq_false h3; omega)).1 e0
theorem rdoneR_fun {l : List Ses} (h : VS l) (who seq : Int) (r : Rp) : Fun C P F_rdone [.sl 0 [] 0 l.length l.length false 14, .i who, .i seq, rpA r] [(0, .c (.arr l.length 14 (rowS l)))] (rwA (doneL l who seq r) (doneE l who seq)) (rwH (doneL l who seq r)) := by
  have h8 := h.2.2
  have fd : Fun C P F_rfind [AV.dat l.length false 14 (fun i => seA (seAt l i)), .i who] [] (.i (rfI l who)) [] := rfind_fun false h who
  by_cases e0 : doneE l who seq = 0
  · have hh : hasS l who = true := by
      cases hh : hasS l who with
      | true => rfl
      | false => unfold doneE at e0; rw [if_pos (.inl hh)] at e0; cases e0
    obtain ⟨hp, hw⟩ := h.has hh
    have eE := doneE_has (seq := seq) hh
    have e2 : doneL l who seq r = l.set (posS l who) ⟨(seAt l (posS l who)).who, seq, r⟩ := by
      unfold doneL; rw [if_pos e0]
      show l.set (posS l who) ⟨who, seq, r⟩ = _
      rw [show (seAt l (posS l who)).who = who from hw]
    rw [e0, e2]
    have hr : rfI l who = (posS l who : Nat) := by unfold rfI; rw [hh]; rfl
    obtain ⟨_, hq0, hq1, _, _⟩ := h.at hp
    change 0 ≤ (atS l who).seq at hq0
    change (atS l who).seq ≤ _ at hq1
    refine in_rdone (W := w_rdone) rfl 1 (by simp) rfl one_id ?_
    refine of_eq (rdone_AR l who seq r 1 _) ?_
    simp only [Nat.zero_add]
    rw [toSeL, hr, Int.toNat_natCast]
    refine ⟨hr ▸ fd, trivial, fun h1 => absurd (of_decide_eq_true h1) (by omega), fun h1 => ⟨(by first | omega | decide | (unfold I64; omega)), (by show I64 ((atS l who).seq + 1); unfold I64; omega), fun h2 => ?_, fun h2 => ⟨fun h3 => ?_, fun h3 => ⟨trivial, (by first | omega | decide | (unfold I64; omega)), (by first | omega | decide | (unfold I64; omega)), ?_⟩⟩⟩⟩
    · change (seq != (atS l who).seq + 1) = true at h2
      rw [eE, if_pos (by simpa using h2)] at e0; cases e0
    · change (seq != (atS l who).seq + 1) = false at h2
      rw [eE, if_neg (by simpa using h2), if_pos (of_decide_eq_true h3)] at e0; cases e0
    · refine cut_ok (S2 := S_rd7 l (posS l who) seq r) (ent_of [(0, 0), (7, 7), (8, 8), (34, 10)] rfl (tm_cons rfl (sm_same rfl) (tm_cons rfl (sm_ptr rfl) (tm_cons rfl (sm_ptr rfl) (tm_cons rfl (sm_same rfl) (tm_cons rfl (sm_sl rfl rfl (by omega) (by omega) (by simp)) tm_nil))))) (hp_cons rfl rfl (sm_same rfl) (hp_cons rfl rfl (sm_same rfl) (hp_cons rfl rfl (sm_arr' rfl fun i hi => by unfold cat; rw [if_neg (Nat.not_lt_zero _)]; rfl) hp_nil)))) (rdone_cut hp h8 seq r 1 ?_)
      rintro q rfl
      exact row_post rfl rfl rfl (by rw [List.length_set]) (by rw [List.length_set]; exact Nat.le_refl _) (by rw [List.length_set]) (fun k hk => .inl (rowD_set seq r hk)) rfl rfl rfl rfl rfl rfl
  · have no : doneL l who seq r = l := by unfold doneL; rw [if_neg e0]
    rw [no]
    refine name01 ?_
    refine in_rdone (W := w_rdone) rfl 1 (by simp) rfl one_id ?_
    refine of_eq (rdone_AR l who seq r 1 _) ?_
    simp only [Nat.zero_add]
    rw [toSeL]
    refine ⟨fd, trivial, ?_⟩
    rcases h.rf who with ⟨hh, hr, hp, hw⟩ | ⟨hh, hr⟩
    · rw [hr, Int.toNat_natCast]
      obtain ⟨_, hq0, hq1, _, _⟩ := h.at hp
      change 0 ≤ (atS l who).seq at hq0
      change (atS l who).seq ≤ _ at hq1
      have eE := doneE_has (seq := seq) hh
      refine ⟨fun h1 => absurd (of_decide_eq_true h1) (by omega), fun h1 => ⟨(by first | omega | decide | (unfold I64; omega)), (by show I64 ((atS l who).seq + 1); unfold I64; omega), fun h2 => ⟨sh2_t, ?_⟩, fun h2 => ⟨fun h3 => ⟨sh2_t, ?_⟩, fun h3 => ?_⟩⟩⟩
      · change (seq != (atS l who).seq + 1) = true at h2
        have e : doneE l who seq = 190 := by rw [eE, if_pos (by simpa using h2)]
        exact row_back rfl rfl rfl rfl e.symm rfl rfl rfl
      · change (seq != (atS l who).seq + 1) = false at h2
        have e : doneE l who seq = 2 := by rw [eE, if_neg (by simpa using h2), if_pos (of_decide_eq_true h3)]
        exact row_back rfl rfl rfl rfl e.symm rfl rfl rfl
      · change (seq != (atS l who).seq + 1) = false at h2
        exact absurd (by rw [eE, if_neg (by simpa using h2), if_neg (of_decide_eq_false h3)]) e0
    · rw [hr]
      refine ⟨fun h1 => ⟨sh2_t, ?_⟩, fun h1 => absurd (of_decide_eq_false h1) (by omega)⟩
      have e : doneE l who seq = 190 := by unfold doneE; rw [if_pos (.inl hh)]
      exact row_back rfl rfl rfl rfl e.symm rfl rfl rfl
end Go.Bu.W

namespace Go.Bu.W
theorem VS.srt {l : List Ses} (h : VS l) {i j : Nat} (hij : i < j) (hj : j < l.length) : (seAt l i).who < (seAt l j).who := by
  have h1 := List.pairwise_iff_getElem.1 h.1 i j (by omega) hj hij
  rw [seAt_lt (by omega), seAt_lt hj]; exact h1
theorem mem_at {l : List Ses} {s : Ses} : s ∈ l ↔ ∃ i, i < l.length ∧ seAt l i = s := by
  rw [List.mem_iff_getElem]
  constructor
  · rintro ⟨i, h, e⟩; exact ⟨i, h, by rw [seAt_lt h]; exact e⟩
  · rintro ⟨i, h, e⟩; exact ⟨i, h, by rw [← seAt_lt h]; exact e⟩
/-- A client has a session exactly if one bears its number. -/
theorem VS.mem {l : List Ses} (h : VS l) {s : Ses} (hs : s ∈ l) : hasS l s.who = true ∧ atS l s.who = s := by
  obtain ⟨i, hi, e⟩ := mem_at.1 hs
  obtain ⟨h1, h2⟩ := h.hit hi (who := s.who) (by rw [e])
  exact ⟨h1, by unfold atS; rw [h2]; exact e⟩
theorem VS.at_mem {l : List Ses} (h : VS l) {who : Int} (hh : hasS l who = true) : atS l who ∈ l ∧ (atS l who).who = who := by
  obtain ⟨h1, h2⟩ := h.has hh
  exact ⟨mem_at.2 ⟨_, h1, rfl⟩, h2⟩
theorem VS.has_iff {l : List Ses} (h : VS l) {who : Int} : hasS l who = true ↔ ∃ s, s ∈ l ∧ s.who = who := by
  constructor
  · intro hh; exact ⟨_, h.at_mem hh⟩
  · rintro ⟨s, hs, rfl⟩; exact (h.mem hs).1
theorem VS.none {l : List Ses} (h : VS l) {who : Int} (hh : hasS l who = false) {s : Ses} (hs : s ∈ l) : s.who ≠ who := fun e => by
  rw [h.has_iff.2 ⟨s, hs, e⟩] at hh; cases hh
/-- Two lists say the same of a client if the same sessions bear its number. -/
theorem VS.same {l m : List Ses} (hl : VS l) (hm : VS m) {k : Int} (h : ∀ s : Ses, s.who = k → (s ∈ l ↔ s ∈ m)) : hasS l k = hasS m k ∧ (hasS l k = true → atS l k = atS m k) := by
  have e : hasS l k = true ↔ hasS m k = true := by
    rw [hl.has_iff, hm.has_iff]
    exact ⟨fun ⟨s, h1, h2⟩ => ⟨s, (h s h2).1 h1, h2⟩, fun ⟨s, h1, h2⟩ => ⟨s, (h s h2).2 h1, h2⟩⟩
  refine ⟨Bool.eq_iff_iff.2 e, fun hh => ?_⟩
  obtain ⟨h1, h2⟩ := hl.at_mem hh
  have := (hm.mem ((h _ h2).1 h1)).2
  rw [h2] at this
  exact this.symm
theorem seen_same {l m : List Ses} {k : Int} (h : hasS l k = hasS m k ∧ (hasS l k = true → atS l k = atS m k)) (seq : Int) : seenE l k seq = seenE m k seq ∧ seenB l k seq = seenB m k seq ∧ seenR l k seq = seenR m k seq := by
  have e1 : seenE l k seq = seenE m k seq := by
    unfold seenE
    rw [← h.1]
    cases hh : hasS l k with
    | false => simp
    | true => rw [h.2 hh]
  have e2 : seenB l k seq = seenB m k seq := by
    unfold seenB
    rw [← e1]
    cases hh : hasS l k with
    | false =>
      have : seenE l k seq = 190 := by unfold seenE; rw [if_pos (.inl hh)]
      rw [this]; rfl
    | true => rw [h.2 hh]
  refine ⟨e1, e2, ?_⟩
  unfold seenR
  rw [← e2]
  cases hb : seenB l k seq with
  | false => rfl
  | true =>
    cases hh : hasS l k with
    | true => rw [h.2 hh]
    | false =>
      have : seenE l k seq = 190 := by unfold seenE; rw [if_pos (.inl hh)]
      unfold seenB at hb; rw [this] at hb; cases hb
theorem VS.vB {l : List Ses} (h : VS l) : W.vB l = true := by
  rw [vB_yes fun k hk => ?_]
  · exact decide_eq_true h.2.2
  · obtain ⟨h1, h2, h3, h4, _⟩ := h.at hk
    refine okS_iff.2 ⟨?_, h2, h3, h4⟩
    unfold prevW
    split
    · omega
    · exact h.srt (by omega) hk
theorem VS.ok {l : List Ses} (h : VS l) : ∀ s, s ∈ l → RpOK s.last := fun s hs => (h.2.1 s hs).2.2.2.2
theorem vs_nil : VS [] := ⟨List.Pairwise.nil, fun s hs => (by cases hs), by simp⟩

/-! Begin. -/
theorem begE_or (l : List Ses) (who : Int) : (begE l who ≠ 0 ∧ begL l who = l) ∨ (begE l who = 0 ∧ 0 ≤ who ∧ hasS l who = false ∧ l.length ≠ 8 ∧ begL l who = l.insertIdx (posS l who) (seW who)) := by
  by_cases e0 : begE l who = 0
  · right
    have e1 : ¬ who < 0 := fun hw => by unfold begE at e0; rw [if_pos hw] at e0; cases e0
    have hh : hasS l who = false := by
      cases hh : hasS l who with
      | false => rfl
      | true => unfold begE at e0; rw [if_neg e1, hh] at e0; cases e0
    have e3 : ¬ l.length = 8 := fun h3 => by unfold begE at e0; rw [if_neg e1, hh, if_neg (by simp), if_pos h3] at e0; cases e0
    exact ⟨e0, by omega, hh, e3, by unfold begL; rw [if_pos e0]⟩
  · exact .inl ⟨e0, beg_no e0⟩
theorem mem_take {l : List Ses} {p : Nat} {s : Ses} : s ∈ l.take p ↔ ∃ i, i < p ∧ i < l.length ∧ seAt l i = s := by
  rw [mem_at]
  constructor
  · rintro ⟨i, h, e⟩
    have h' : i < p ∧ i < l.length := by simp at h; omega
    exact ⟨i, h'.1, h'.2, by rw [← e, seAt_lt h, List.getElem_take, seAt_lt h'.2]⟩
  · rintro ⟨i, h1, h2, e⟩
    have h : i < (l.take p).length := by simp; omega
    exact ⟨i, h, by rw [← e, seAt_lt h, List.getElem_take, seAt_lt h2]⟩
theorem mem_drop {l : List Ses} {p : Nat} {s : Ses} : s ∈ l.drop p ↔ ∃ i, p ≤ i ∧ i < l.length ∧ seAt l i = s := by
  rw [mem_at]
  constructor
  · rintro ⟨i, h, e⟩
    have h' : p + i < l.length := by simp at h; omega
    exact ⟨p + i, by omega, h', by rw [← e, seAt_lt h, List.getElem_drop, seAt_lt h']⟩
  · rintro ⟨i, h1, h2, e⟩
    have h : i - p < (l.drop p).length := by simp; omega
    exact ⟨i - p, h, by rw [← e, seAt_lt h, List.getElem_drop, seAt_lt h2]; congr 1; omega⟩
theorem VS.sides {l : List Ses} (h : VS l) {who : Int} (hh : hasS l who = false) {i : Nat} (hi : i < l.length) : (i < posS l who → (seAt l i).who < who) ∧ (posS l who ≤ i → who < (seAt l i).who) := by
  obtain ⟨h1, h2⟩ := pos_of h hh hi
  have hne := h.none hh (mem_at.2 ⟨i, hi, rfl⟩)
  exact ⟨fun hlt => Classical.byContradiction fun hc => by have := h1 (by omega); omega, fun hle => Classical.byContradiction fun hc => by have := h2 (by omega); omega⟩
theorem mem_ins {l : List Ses} {who : Int} (hp : posS l who ≤ l.length) {s : Ses} : s ∈ l.insertIdx (posS l who) (seW who) ↔ s = seW who ∨ s ∈ l := by
  rw [ins_td _ _ _ hp, List.mem_append, List.mem_cons]
  have e : s ∈ l ↔ s ∈ l.take (posS l who) ∨ s ∈ l.drop (posS l who) := by
    rw [← List.mem_append, List.take_append_drop]
  rw [e]
  constructor
  · rintro (h | h | h)
    · exact .inr (.inl h)
    · exact .inl h
    · exact .inr (.inr h)
  · rintro (h | h | h)
    · exact .inr (.inl h)
    · exact .inl h
    · exact .inr (.inr h)
theorem VS.beg {l : List Ses} (h : VS l) (who : Int) : VS (begL l who) := by
  rcases begE_or l who with ⟨_, e⟩ | ⟨_, h0, hh, h8, e⟩
  · rw [e]; exact h
  · rw [e]
    have hp := h.pos_le who
    refine ⟨?_, fun s hs => ?_, ?_⟩
    · rw [ins_td _ _ _ hp]
      refine List.pairwise_append.2 ⟨h.1.sublist (List.take_sublist _ _), List.pairwise_cons.2 ⟨fun b hb => ?_, h.1.sublist (List.drop_sublist _ _)⟩, fun a ha b hb => ?_⟩
      · obtain ⟨i, h1, h2, rfl⟩ := mem_drop.1 hb
        exact (h.sides hh h2).2 h1
      · obtain ⟨i, h1, h2, rfl⟩ := mem_take.1 ha
        have := (h.sides hh h2).1 h1
        rcases List.mem_cons.1 hb with rfl | hb
        · exact this
        · obtain ⟨j, h3, h4, rfl⟩ := mem_drop.1 hb
          have := (h.sides hh h4).2 h3
          omega
    · rcases (mem_ins hp).1 hs with rfl | hs
      · exact ⟨h0, by simp, by simp, fun _ => rfl, rp0_ok⟩
      · exact h.2.1 s hs
    · have := h.2.2
      rw [List.length_insertIdx, if_pos hp]; omega
theorem VS.mem_beg {l : List Ses} (h : VS l) {who : Int} {s : Ses} : s ∈ begL l who ↔ s ∈ l ∨ (begE l who = 0 ∧ s = seW who) := by
  rcases begE_or l who with ⟨e0, e⟩ | ⟨e0, _, _, _, e⟩
  · rw [e]; simp [e0]
  · rw [e, mem_ins (h.pos_le who)]
    simp only [e0, true_and]
    exact or_comm

/-! Done. -/
theorem doneE_or (l : List Ses) (who seq : Int) (r : Rp) : (doneE l who seq ≠ 0 ∧ doneL l who seq r = l) ∨ (doneE l who seq = 0 ∧ hasS l who = true ∧ seq = (atS l who).seq + 1 ∧ seq ≤ 1000000000 ∧ doneL l who seq r = l.set (posS l who) ⟨who, seq, r⟩) := by
  by_cases e0 : doneE l who seq = 0
  · right
    have hh : hasS l who = true := by
      cases hh : hasS l who with
      | true => rfl
      | false => unfold doneE at e0; rw [if_pos (.inl hh)] at e0; cases e0
    have eE := doneE_has (seq := seq) hh
    rw [e0] at eE
    by_cases h1 : seq ≠ (atS l who).seq + 1
    · rw [if_pos h1] at eE; cases eE
    · rw [if_neg h1] at eE
      by_cases h2 : seq > 1000000000
      · rw [if_pos h2] at eE; cases eE
      · exact ⟨e0, hh, by omega, by omega, by unfold doneL; rw [if_pos e0]⟩
  · exact .inl ⟨e0, by unfold doneL; rw [if_neg e0]⟩
theorem mem_set {l : List Ses} (h : VS l) {who : Int} (hh : hasS l who = true) {x : Ses} (hx : x.who = who) {s : Ses} : s ∈ l.set (posS l who) x ↔ s = x ∨ (s ∈ l ∧ s.who ≠ who) := by
  obtain ⟨hp, hw⟩ := h.has hh
  rw [mem_at]
  constructor
  · rintro ⟨i, hi, e⟩
    rw [List.length_set] at hi
    rw [seAt_set hi] at e
    by_cases hc : i = posS l who
    · rw [if_pos hc] at e; exact .inl e.symm
    · rw [if_neg hc] at e
      refine .inr ⟨mem_at.2 ⟨i, hi, e⟩, fun hw2 => hc ?_⟩
      rw [← e] at hw2
      exact ((h.hit hi hw2).2).symm
  · rintro (rfl | ⟨h1, h2⟩)
    · exact ⟨posS l who, by rw [List.length_set]; exact hp, by rw [seAt_set hp, if_pos rfl]⟩
    · obtain ⟨i, hi, e⟩ := mem_at.1 h1
      refine ⟨i, by rw [List.length_set]; exact hi, ?_⟩
      rw [seAt_set hi, if_neg fun hc => ?_]
      · exact e
      · rw [← e, hc] at h2
        exact h2 hw
theorem VS.set {l : List Ses} (h : VS l) {who : Int} (hh : hasS l who = true) {x : Ses} (hx : x.who = who) (h1 : 0 ≤ x.seq ∧ x.seq ≤ 1000000000 ∧ (x.seq = 0 → x.last = rp0) ∧ RpOK x.last) : VS (l.set (posS l who) x) := by
  obtain ⟨hp, hw⟩ := h.has hh
  refine ⟨List.pairwise_iff_getElem.2 fun i j hi hj hij => ?_, fun s hs => ?_, by rw [List.length_set]; exact h.2.2⟩
  · rw [List.length_set] at hi hj
    have e : ∀ k, k < l.length → (seAt (l.set (posS l who) x) k).who = (seAt l k).who := fun k hk => by
      rw [seAt_set hk]
      split
      · rename_i hc; rw [hc]; exact hx.trans hw.symm
      · rfl
    rw [← seAt_lt, ← seAt_lt, e i hi, e j hj]
    exact h.srt hij hj
  · rcases (mem_set h hh hx).1 hs with rfl | ⟨hs, _⟩
    · exact ⟨by rw [hx, ← hw]; exact (h.at hp).1, h1⟩
    · exact h.2.1 s hs
theorem VS.done {l : List Ses} (h : VS l) (who seq : Int) {r : Rp} (hr : RpOK r) : VS (doneL l who seq r) := by
  rcases doneE_or l who seq r with ⟨_, e⟩ | ⟨_, hh, h1, h2, e⟩
  · rw [e]; exact h
  · rw [e]
    have := (h.at (h.has hh).1).2.1
    change 0 ≤ (atS l who).seq at this
    exact h.set hh rfl ⟨by show 0 ≤ seq; omega, h2, fun (h3 : seq = 0) => by omega, hr⟩
theorem VS.mem_done {l : List Ses} (h : VS l) {who seq : Int} {r : Rp} {s : Ses} (he : doneE l who seq = 0) : s ∈ doneL l who seq r ↔ s = ⟨who, seq, r⟩ ∨ (s ∈ l ∧ s.who ≠ who) := by
  rcases doneE_or l who seq r with ⟨e0, e⟩ | ⟨_, hh, h1, h2, e⟩
  · exact absurd he e0
  · rw [e]; exact mem_set h hh rfl

/-! End. -/
theorem mem_erase {l : List Ses} (h : VS l) {who : Int} (hh : hasS l who = true) {s : Ses} : s ∈ l.eraseIdx (posS l who) ↔ s ∈ l ∧ s.who ≠ who := by
  obtain ⟨hp, hw⟩ := h.has hh
  rw [List.eraseIdx_eq_take_drop_succ, List.mem_append, mem_take, mem_drop, mem_at]
  constructor
  · rintro (⟨i, h1, h2, rfl⟩ | ⟨i, h1, h2, rfl⟩)
    · exact ⟨⟨i, h2, rfl⟩, fun e => by have := (h.hit h2 e).2; omega⟩
    · exact ⟨⟨i, h2, rfl⟩, fun e => by have := (h.hit h2 e).2; omega⟩
  · rintro ⟨⟨i, h2, rfl⟩, hne⟩
    rcases Nat.lt_trichotomy i (posS l who) with h3 | rfl | h3
    · exact .inl ⟨i, h3, h2, rfl⟩
    · exact absurd hw hne
    · exact .inr ⟨i, h3, h2, rfl⟩
theorem VS.fin {l : List Ses} (h : VS l) (who : Int) : VS (endL l who) := by
  unfold endL
  cases hh : hasS l who with
  | false => exact h
  | true =>
    rw [if_pos rfl]
    refine ⟨h.1.sublist (List.eraseIdx_sublist _ _), fun s hs => h.2.1 s ((mem_erase h hh).1 hs).1, ?_⟩
    have := h.2.2
    have := (h.has hh).1
    rw [List.length_eraseIdx]; split <;> omega
theorem VS.mem_end {l : List Ses} (h : VS l) {who : Int} {s : Ses} : s ∈ endL l who ↔ s ∈ l ∧ s.who ≠ who := by
  unfold endL
  cases hh : hasS l who with
  | false => exact ⟨fun hs => ⟨hs, h.none hh hs⟩, fun hs => hs.1⟩
  | true => rw [if_pos rfl]; exact mem_erase h hh

/-! Made of numbers. -/
abbrev Tri : Type := Nat × Nat × Nat
def nrep (n : Int) : Rp := ⟨0, n, [], [], rp0.nd⟩
theorem nrep_ok (n : Int) : RpOK (nrep n) := by simp [RpOK, NdOK, nrep, rp0]
/-- Done so often. -/
def manyD (l : List Ses) (who v : Int) : Nat → List Ses
  | 0 => l
  | n + 1 => doneL (manyD l who v n) who ((atS (manyD l who v n) who).seq + 1) (nrep v)
def lastS (who : Int) : Ses := ⟨who, 1000000000, nrep 1⟩
def stepM (s : List Ses) (x : Tri) : List Ses :=
  if hasS (begL s (x.1 % 12 : Nat)) (x.1 % 12 : Nat) then
    (if x.2.1 > 250 then (manyD (begL s (x.1 % 12 : Nat)) (x.1 % 12 : Nat) x.2.2 (x.2.1 % 4)).set (posS (begL s (x.1 % 12 : Nat)) (x.1 % 12 : Nat)) (lastS (x.1 % 12 : Nat)) else manyD (begL s (x.1 % 12 : Nat)) (x.1 % 12 : Nat) x.2.2 (x.2.1 % 4))
  else begL s (x.1 % 12 : Nat)
def madeS (l : List Tri) : List Ses := l.foldl stepM []
theorem VS.done_pos {l : List Ses} (h : VS l) {who seq : Int} {r : Rp} (hr : RpOK r) (hh : hasS l who = true) : hasS (doneL l who seq r) who = true ∧ posS (doneL l who seq r) who = posS l who := by
  rcases doneE_or l who seq r with ⟨_, e⟩ | ⟨e0, _, h1, h2, e⟩
  · rw [e]; exact ⟨hh, rfl⟩
  · obtain ⟨hp, hw⟩ := h.has hh
    have hv := h.done who seq hr
    rw [e] at hv ⊢
    exact hv.hit (i := posS l who) (by rw [List.length_set]; exact hp) (by rw [seAt_set hp, if_pos rfl])
theorem VS.many {l : List Ses} (h : VS l) {who : Int} (hh : hasS l who = true) (v : Int) : ∀ n, VS (manyD l who v n) ∧ hasS (manyD l who v n) who = true ∧ posS (manyD l who v n) who = posS l who
  | 0 => ⟨h, hh, rfl⟩
  | n + 1 => by
    obtain ⟨h1, h2, h3⟩ := h.many hh v n
    obtain ⟨h4, h5⟩ := h1.done_pos (seq := (atS (manyD l who v n) who).seq + 1) (nrep_ok v) h2
    exact ⟨h1.done _ _ (nrep_ok v), h4, h5.trans h3⟩
theorem VS.step {s : List Ses} (h : VS s) (x : Tri) : VS (stepM s x) := by
  have hb := h.beg (x.1 % 12 : Nat)
  unfold stepM
  cases hh : hasS (begL s (x.1 % 12 : Nat)) (x.1 % 12 : Nat) with
  | false => exact hb
  | true =>
    rw [if_pos rfl]
    obtain ⟨h1, h2, h3⟩ := hb.many hh x.2.2 (x.2.1 % 4)
    split
    · rw [← h3]
      exact h1.set h2 rfl ⟨by simp [lastS], by simp [lastS], fun hz => by simp [lastS] at hz, nrep_ok 1⟩
    · exact h1
theorem vs_made (l : List Tri) : VS (madeS l) := by
  unfold madeS
  have : ∀ (l : List Tri) (s : List Ses), VS s → VS (l.foldl stepM s) := fun l => by
    induction l with
    | nil => intro s h; exact h
    | cons x r ih => intro s h; exact ih _ (h.step x)
  exact this l [] vs_nil
end Go.Bu.W

