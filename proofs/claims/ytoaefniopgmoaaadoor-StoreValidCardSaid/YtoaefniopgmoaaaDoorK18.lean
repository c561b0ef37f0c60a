/- Jobs put, dropped; the reference's ones. -/
import Derived.Test.YtoaefniopgmoaaaDoorK17
namespace Go.Bu.W
open Sp
def crPut : List AV → Option (AV × List (Nat × Blk))
  | [x, i, s, .dat n _ _ f] => some (.tup [dkA false false (putD (toDk x) (asI i) (asI s) (bytesL n f)), .i (putE (asI i) (asI s) (bytesL n f))], [])
  | _ => none
def crRPut : List AV → Option (AV × List (Nat × Blk))
  | [x, i, s, .dat n _ _ f] => some (.st [dkA false false (putD (toDk x) (asI i) (asI s) (bytesL n f)), .i (putE (asI i) (asI s) (bytesL n f))], [])
  | _ => none
def crDrop : List AV → Option (AV × List (Nat × Blk))
  | [x, i] => some (dkA false false (dropD (toDk x) (asI i)), [])
  | _ => none
def rpB (c : Cl) : Bool := inRng c.i c.s && decide ((c.b.length : Int) ≤ 1048576)
def crRProper : List AV → Option (AV × List (Nat × Blk))
  | [x] => some (.sb (rpB (toCl x)), [])
  | _ => none
def crBefore : List AV → Option (AV × List (Nat × Blk))
  | [x, y] => some (.sb (ltC (toCl x) (toCl y)), [])
  | _ => none
def crS4 (g : Nat) (args : List AV) (H : List (Nat × Blk)) : Option (AV × List (Nat × Blk)) :=
  sel (Nat.beq g F_put) (crPut args) <| sel (Nat.beq g F_lput) (crRPut args) <| sel (Nat.beq g F_rput) (crRPut args) <| sel (Nat.beq g F_drop) (crDrop args) <| sel (Nat.beq g F_rdrop) (crDrop args) <| sel (Nat.beq g F_rqueued) (crPush args) <|
  sel (Nat.beq g F_rproper) (crRProper args) <| sel (Nat.beq g F_rbefore) (crBefore args) <| crS3 g args H
def wayG (keep : List Nat) (nt : Nat) (cuts : List Nat) : Way := ⟨crS4, fun _ => false, keep, [], nt, cuts, []⟩
def w_put : Way := wayG [0, 1, 2, 3, 4, 8, 9, 10, 16, 21] 33 []
def w_drop : Way := wayG [0, 1, 2, 4, 5, 10] 16 []
def w_lput : Way := wayG [0, 1, 2, 3, 4, 8, 9, 10] 22 []
abbrev dbA (ex : Bool) (b : List Nat) : AV := .dat b.length ex 1 (rowL b)

theorem put_A (ex ey : Bool) (d : Dk) (i s : Int) (ez : Bool) (b : List Nat) {D : Dom} (K : Nat) (Φ : Ex → St → Prop) :
  (Holds C P 33 D K Φ (vc C w_put b_put [] (start [dkA ex ey d, .i i, .i s, dbA ez b] []) lf)) =
  (Fun W.C W.P 62 [(AV.dat (List.length b) ez 1 (rowL b))] [] (AV.dat (List.length b) false 1 (rowL b)) [] ∧
 ((((true = true) ∧ (true = true)) ∧ (((true = true) ∧ (true = true)) ∧ (((true = true) ∧ (true = true)) ∧ (((32 = 32) ∧ ((1 = 1) ∧ (∀ (i1 : Nat), ((i1 < 32) → ((true = true) ∧ (true = true)))))) ∧ True)))) ∧
 (Fun W.C W.P 40 [(AV.st [(AV.i i), (AV.i s), (AV.dat (List.length b) false 1 (rowL b)), (AV.arr 32 1 (fun (x : Nat) => (AV.v (Value.int IntKind.u8 (0 : Int)))))])] [] (AV.sb (W.inRng (W.Cl.i (W.toCl (AV.st [(AV.i i), (AV.i s), (AV.dat (List.length b) false 1 (rowL b)), (AV.arr 32 1 (fun (x : Nat) => (AV.v (Value.int IntKind.u8 (0 : Int)))))]))) (W.Cl.s (W.toCl (AV.st [(AV.i i), (AV.i s), (AV.dat (List.length b) false 1 (rowL b)), (AV.arr 32 1 (fun (x : Nat) => (AV.v (Value.int IntKind.u8 (0 : Int)))))]))))) [] ∧
 (True ∧
 (((! (W.inRng (W.Cl.i (W.toCl (AV.st [(AV.i i), (AV.i s), (AV.dat (List.length b) false 1 (rowL b)), (AV.arr 32 1 (fun (x : Nat) => (AV.v (Value.int IntKind.u8 (0 : Int)))))]))) (W.Cl.s (W.toCl (AV.st [(AV.i i), (AV.i s), (AV.dat (List.length b) false 1 (rowL b)), (AV.arr 32 1 (fun (x : Nat) => (AV.v (Value.int IntKind.u8 (0 : Int)))))]))))) = true →
 ((((true = true) ∧ (true = true)) ∧ (((true = true) ∧ (true = true)) ∧ True)) ∧
  (Φ Ex.ret (St.mk [(0, (W.dkA ex ey d)), (1, (AV.i i)), (2, (AV.i s)), (3, (AV.dat (List.length b) ez 1 (rowL b))), (4, (AV.ptr 4 [])), (8, (AV.ptr 8 [])), (9, (AV.i (1 : Int))), (10, (AV.ptr 10 [])), (16, (AV.v (Value.bool true)))] [(4, (Blk.c (W.dkA ex ey d))), (8, (Blk.c (W.dkA ex ey d))), (10, (Blk.c (AV.st [(AV.i i), (AV.i s), (AV.dat (List.length b) false 1 (rowL b)), (AV.arr 32 1 (fun (x : Nat) => (AV.v (Value.int IntKind.u8 (0 : Int)))))])))] [10, 8, 4])))) ∧
 ((! (W.inRng (W.Cl.i (W.toCl (AV.st [(AV.i i), (AV.i s), (AV.dat (List.length b) false 1 (rowL b)), (AV.arr 32 1 (fun (x : Nat) => (AV.v (Value.int IntKind.u8 (0 : Int)))))]))) (W.Cl.s (W.toCl (AV.st [(AV.i i), (AV.i s), (AV.dat (List.length b) false 1 (rowL b)), (AV.arr 32 1 (fun (x : Nat) => (AV.v (Value.int IntKind.u8 (0 : Int)))))]))))) = false →
 (((decide ((((List.length b) : Nat) : Int) > (1048576 : Int))) = true →
  ((((true = true) ∧ (true = true)) ∧ (((true = true) ∧ (true = true)) ∧ True)) ∧
   (Φ Ex.ret (St.mk [(0, (W.dkA ex ey d)), (1, (AV.i i)), (2, (AV.i s)), (3, (AV.dat (List.length b) ez 1 (rowL b))), (4, (AV.ptr 4 [])), (8, (AV.ptr 8 [])), (9, (AV.i (2 : Int))), (10, (AV.ptr 10 [])), (16, (AV.v (Value.bool false))), (21, (AV.v (Value.bool true)))] [(4, (Blk.c (W.dkA ex ey d))), (8, (Blk.c (W.dkA ex ey d))), (10, (Blk.c (AV.st [(AV.i i), (AV.i s), (AV.dat (List.length b) false 1 (rowL b)), (AV.arr 32 1 (fun (x : Nat) => (AV.v (Value.int IntKind.u8 (0 : Int)))))])))] [10, 8, 4])))) ∧
  ((decide ((((List.length b) : Nat) : Int) > (1048576 : Int))) = false →
  (Fun W.C W.P 63 [(AV.dat (List.length b) ez 1 (rowL b))] [] (W.hA (Sp.sumN (bytesL (List.length b) (rowL b)))) [] ∧
   ((∀ (i1 : Nat), ((i1 < 32) → True)) ∧
   (((32 = 32) ∧ ((1 = 1) ∧ (∀ (i1 : Nat), ((i1 < 32) → ((true = true) ∧ (true = true)))))) ∧
   (Fun W.C W.P 41 [(W.dkA ex ey d), (AV.st [(AV.v (Value.bool false)), (AV.st [(AV.i i), (AV.i s), (AV.dat (List.length b) false 1 (rowL b)), (W.hA (Sp.sumN (bytesL (List.length b) (rowL b))))])])] [] (W.dkA false false (W.pushD (W.toDk (W.dkA ex ey d)) (W.toJb (AV.st [(AV.v (Value.bool false)), (AV.st [(AV.i i), (AV.i s), (AV.dat (List.length b) false 1 (rowL b)), (W.hA (Sp.sumN (bytesL (List.length b) (rowL b))))])])))) [] ∧
   ((((true = true) ∧ (true = true)) ∧ (((true = true) ∧ (true = true)) ∧ True)) ∧
   (Φ Ex.ret (St.mk [(0, (W.dkA ex ey d)), (1, (AV.i i)), (2, (AV.i s)), (3, (AV.dat (List.length b) ez 1 (rowL b))), (4, (AV.ptr 4 [])), (8, (AV.ptr 8 [])), (9, (AV.i (0 : Int))), (10, (AV.ptr 10 [])), (16, (AV.v (Value.bool false))), (21, (AV.v (Value.bool false)))] [(4, (Blk.c (W.dkA ex ey d))), (8, (Blk.c (W.dkA false false (W.pushD (W.toDk (W.dkA ex ey d)) (W.toJb (AV.st [(AV.v (Value.bool false)), (AV.st [(AV.i i), (AV.i s), (AV.dat (List.length b) false 1 (rowL b)), (W.hA (Sp.sumN (bytesL (List.length b) (rowL b))))])])))))), (10, (Blk.c (AV.st [(AV.i i), (AV.i s), (AV.dat (List.length b) false 1 (rowL b)), (W.hA (Sp.sumN (bytesL (List.length b) (rowL b))))])))] [10, 8, 4]))))))))))))))) := by kernel_rfl

theorem lput_A (ex ey : Bool) (d : Dk) (i s : Int) (ez : Bool) (b : List Nat) {D : Dom} (K : Nat) (Φ : Ex → St → Prop) :
  (Holds C P 22 D K Φ (vc C w_lput b_lput [] (start [dkA ex ey d, .i i, .i s, dbA ez b] []) lf)) =
  (Fun W.C W.P 39 [(W.dkA ex ey d), (AV.i i), (AV.i s), (AV.dat (List.length b) ez 1 (rowL b))] [] (AV.tup [(W.dkA false false (W.putD (W.toDk (W.dkA ex ey d)) i s (bytesL (List.length b) (rowL b)))), (AV.i (W.putE i s (bytesL (List.length b) (rowL b))))]) [] ∧
 ((((true = true) ∧ (true = true)) ∧ (((true = true) ∧ (true = true)) ∧ True)) ∧
 (((((true = true) ∧ (true = true)) ∧ (((true = true) ∧ (true = true)) ∧ True)) ∧ (((true = true) ∧ (true = true)) ∧ True)) ∧
 (Φ Ex.ret (St.mk [(0, (W.dkA ex ey d)), (1, (AV.i i)), (2, (AV.i s)), (3, (AV.dat (List.length b) ez 1 (rowL b))), (4, (AV.ptr 4 [])), (8, (AV.ptr 8 [])), (9, (AV.ptr 9 [])), (10, (AV.i (W.putE i s (bytesL (List.length b) (rowL b)))))] [(4, (Blk.c (W.dkA ex ey d))), (8, (Blk.c (AV.st [(W.dkA false false (W.putD (W.toDk (W.dkA ex ey d)) i s (bytesL (List.length b) (rowL b)))), (AV.i (W.putE i s (bytesL (List.length b) (rowL b))))]))), (9, (Blk.c (W.dkA false false (W.putD (W.toDk (W.dkA ex ey d)) i s (bytesL (List.length b) (rowL b))))))] [9, 8, 4]))))) := by kernel_rfl
theorem drop_A (ex ey : Bool) (d : Dk) (i : Int) {D : Dom} (K : Nat) (Φ : Ex → St → Prop) :
  (Holds C P 16 D K Φ (vc C w_drop b_drop [] (start [dkA ex ey d, .i i] []) lf)) =
  ((((true = true) ∧ (true = true)) ∧ (((true = true) ∧ (true = true)) ∧ (((true = true) ∧ (true = true)) ∧ (((32 = 32) ∧ ((1 = 1) ∧ (∀ (i1 : Nat), ((i1 < 32) → ((true = true) ∧ (true = true)))))) ∧ True)))) ∧
 (Fun W.C W.P 40 [(AV.st [(AV.i i), (AV.i (0 : Int)), (AV.dat 0 true 0 (fun (x : Nat) => (AV.v (Value.tuple (List.toArray []))))), (AV.arr 32 1 (fun (x : Nat) => (AV.v (Value.int IntKind.u8 (0 : Int)))))])] [] (AV.sb (W.inRng (W.Cl.i (W.toCl (AV.st [(AV.i i), (AV.i (0 : Int)), (AV.dat 0 true 0 (fun (x : Nat) => (AV.v (Value.tuple (List.toArray []))))), (AV.arr 32 1 (fun (x : Nat) => (AV.v (Value.int IntKind.u8 (0 : Int)))))]))) (W.Cl.s (W.toCl (AV.st [(AV.i i), (AV.i (0 : Int)), (AV.dat 0 true 0 (fun (x : Nat) => (AV.v (Value.tuple (List.toArray []))))), (AV.arr 32 1 (fun (x : Nat) => (AV.v (Value.int IntKind.u8 (0 : Int)))))]))))) [] ∧
 (True ∧
 (((! (W.inRng (W.Cl.i (W.toCl (AV.st [(AV.i i), (AV.i (0 : Int)), (AV.dat 0 true 0 (fun (x : Nat) => (AV.v (Value.tuple (List.toArray []))))), (AV.arr 32 1 (fun (x : Nat) => (AV.v (Value.int IntKind.u8 (0 : Int)))))]))) (W.Cl.s (W.toCl (AV.st [(AV.i i), (AV.i (0 : Int)), (AV.dat 0 true 0 (fun (x : Nat) => (AV.v (Value.tuple (List.toArray []))))), (AV.arr 32 1 (fun (x : Nat) => (AV.v (Value.int IntKind.u8 (0 : Int)))))]))))) = true →
 ((((true = true) ∧ (true = true)) ∧ (((true = true) ∧ (true = true)) ∧ True)) ∧
  (Φ Ex.ret (St.mk [(0, (W.dkA ex ey d)), (1, (AV.i i)), (2, (AV.ptr 2 [])), (4, (AV.ptr 4 [])), (5, (AV.ptr 5 [])), (10, (AV.v (Value.bool true)))] [(2, (Blk.c (W.dkA ex ey d))), (4, (Blk.c (W.dkA ex ey d))), (5, (Blk.c (AV.st [(AV.i i), (AV.i (0 : Int)), (AV.dat 0 true 0 (fun (x : Nat) => (AV.v (Value.tuple (List.toArray []))))), (AV.arr 32 1 (fun (x : Nat) => (AV.v (Value.int IntKind.u8 (0 : Int)))))])))] [5, 4, 2])))) ∧
 ((! (W.inRng (W.Cl.i (W.toCl (AV.st [(AV.i i), (AV.i (0 : Int)), (AV.dat 0 true 0 (fun (x : Nat) => (AV.v (Value.tuple (List.toArray []))))), (AV.arr 32 1 (fun (x : Nat) => (AV.v (Value.int IntKind.u8 (0 : Int)))))]))) (W.Cl.s (W.toCl (AV.st [(AV.i i), (AV.i (0 : Int)), (AV.dat 0 true 0 (fun (x : Nat) => (AV.v (Value.tuple (List.toArray []))))), (AV.arr 32 1 (fun (x : Nat) => (AV.v (Value.int IntKind.u8 (0 : Int)))))]))))) = false →
 (Fun W.C W.P 41 [(W.dkA ex ey d), (AV.st [(AV.v (Value.bool true)), (AV.st [(AV.i i), (AV.i (0 : Int)), (AV.dat 0 true 0 (fun (x : Nat) => (AV.v (Value.tuple (List.toArray []))))), (AV.arr 32 1 (fun (x : Nat) => (AV.v (Value.int IntKind.u8 (0 : Int)))))])])] [] (W.dkA false false (W.pushD (W.toDk (W.dkA ex ey d)) (W.toJb (AV.st [(AV.v (Value.bool true)), (AV.st [(AV.i i), (AV.i (0 : Int)), (AV.dat 0 true 0 (fun (x : Nat) => (AV.v (Value.tuple (List.toArray []))))), (AV.arr 32 1 (fun (x : Nat) => (AV.v (Value.int IntKind.u8 (0 : Int)))))])])))) [] ∧
  ((((true = true) ∧ (true = true)) ∧ (((true = true) ∧ (true = true)) ∧ True)) ∧
  (Φ Ex.ret (St.mk [(0, (W.dkA ex ey d)), (1, (AV.i i)), (2, (AV.ptr 2 [])), (4, (AV.ptr 4 [])), (5, (AV.ptr 5 [])), (10, (AV.v (Value.bool false)))] [(2, (Blk.c (W.dkA ex ey d))), (4, (Blk.c (W.dkA false false (W.pushD (W.toDk (W.dkA ex ey d)) (W.toJb (AV.st [(AV.v (Value.bool true)), (AV.st [(AV.i i), (AV.i (0 : Int)), (AV.dat 0 true 0 (fun (x : Nat) => (AV.v (Value.tuple (List.toArray []))))), (AV.arr 32 1 (fun (x : Nat) => (AV.v (Value.int IntKind.u8 (0 : Int)))))])])))))), (5, (Blk.c (AV.st [(AV.i i), (AV.i (0 : Int)), (AV.dat 0 true 0 (fun (x : Nat) => (AV.v (Value.tuple (List.toArray []))))), (AV.arr 32 1 (fun (x : Nat) => (AV.v (Value.int IntKind.u8 (0 : Int)))))])))] [5, 4, 2]))))))))) := by kernel_rfl
theorem toCl_raw (i s : Int) (b : List Nat) (ex : Bool) : toCl (AV.st [(AV.i i), (AV.i s), (AV.dat (List.length b) ex 1 (rowL b)), (AV.arr 32 1 (fun (_ : Nat) => (AV.v (Value.int IntKind.u8 (0 : Int)))))]) = ⟨i, s, b, hz⟩ := by
  show Cl.mk (asI (.i i)) (asI (.i s)) (bytesL b.length (rowL b)) hz = _
  rw [bytesL_row]; rfl
abbrev nilS : AV := AV.dat 0 true 0 (fun (_ : Nat) => (AV.v (Value.tuple (List.toArray []))))
abbrev zH : AV := AV.arr 32 1 (fun (_ : Nat) => (AV.v (Value.int IntKind.u8 (0 : Int))))
theorem toCl_nil (i s : Int) : toCl (AV.st [(AV.i i), (AV.i s), nilS, zH]) = ⟨i, s, [], hz⟩ := rfl
theorem sm_nilS {m : Nat → Option Nat} (f : Nat → AV) : simR m nilS (.dat 0 false 1 f) := .inr ⟨rfl, by simp, .inl rfl, fun i hi => absurd hi (Nat.not_lt_zero i)⟩
theorem sm_nilC {m : Nat → Option Nat} (i s : Int) : simR m (AV.st [(AV.i i), (AV.i s), nilS, zH]) (clA ⟨i, s, [], hz⟩) := sm_st (sms_cons (sm_int rfl) (sms_cons (sm_int rfl) (sms_cons (sm_nilS _) (sms_cons (sm_arr fun k _ => rfl) sms_nil))))
theorem sm_dk {m : Nat → Option Nat} (ex ey : Bool) (d : Dk) : simR m (dkA ex ey d) (dkA false false d) := sm_st (sms_cons (sm_dat (by simp) fun i _ => rfl) (sms_cons (sm_dat (by simp) fun i _ => rfl) sms_nil))
abbrev TD2 : (((true = true) ∧ (true = true)) ∧ (((true = true) ∧ (true = true)) ∧ True)) := ⟨⟨rfl, rfl⟩, ⟨rfl, rfl⟩, trivial⟩
abbrev TC4 : (((true = true) ∧ (true = true)) ∧ (((true = true) ∧ (true = true)) ∧ (((true = true) ∧ (true = true)) ∧ (((32 = 32) ∧ ((1 = 1) ∧ (∀ (i1 : Nat), ((i1 < 32) → ((true = true) ∧ (true = true)))))) ∧ True)))) := ⟨⟨rfl, rfl⟩, ⟨rfl, rfl⟩, ⟨rfl, rfl⟩, ⟨rfl, rfl, fun _ _ => ⟨rfl, rfl⟩⟩, trivial⟩
theorem drop_fun (ex ey : Bool) (d : Dk) (i : Int) (hn : d.q.length < 2 ^ 38) : Fun C P F_drop [dkA ex ey d, .i i] [] (dkA false false (dropD d i)) [] := by
  refine in_drop (W := w_drop) rfl 0 (by simp) rfl (fun id h => absurd rfl h) fun D => ?_
  refine of_eq (drop_A ex ey d i 0 _) ?_
  rw [toCl_nil, toDk_A]
  have hj : toJb (AV.st [(AV.v (Value.bool true)), (AV.st [(AV.i i), (AV.i (0 : Int)), nilS, zH])]) = dropJ i := rfl
  rw [hj]
  have hp : Fun C P F_push [dkA ex ey d, AV.st [(AV.v (Value.bool true)), (AV.st [(AV.i i), (AV.i (0 : Int)), nilS, zH])]] [] (dkA false false (pushD d (dropJ i))) [] := (push_fun ex ey d (dropJ i) hn).sim ⟨sm_same rfl, sm_st (sms_cons (sm_b rfl) (sms_cons (sm_nilC i 0) sms_nil)), trivial⟩ trivial
  refine ⟨TC4, (inrange_fun ⟨i, 0, [], hz⟩).sim ⟨sm_nilC i 0, trivial⟩ trivial, trivial, fun h => ?_, fun h => ?_⟩
  · have e : dropD d i = d := by
      unfold dropD
      rw [if_neg]
      intro h2
      rw [show inRng i 0 = true from h2] at h; cases h
    rw [e]
    exact ⟨TD2, post_cell rfl rfl (sm_dk ex ey d) rfl⟩
  · have e : dropD d i = pushD d (dropJ i) := by
      unfold dropD
      rw [if_pos]
      have h : (!inRng i 0) = false := h
      simpa using h
    rw [e]
    exact ⟨hp, TD2, post_cell rfl rfl (sm_same rfl) rfl⟩
theorem put_fun (ex ey : Bool) (d : Dk) (i s : Int) (ez : Bool) (b : List Nat) (hs : Small b) (hb : b.length < 2 ^ 40) (hn : d.q.length < 2 ^ 38) : Fun C P F_put [dkA ex ey d, .i i, .i s, dbA ez b] [] (.tup [dkA false false (putD d i s b), .i (putE i s b)]) [] := by
  refine in_put (W := w_put) rfl 0 (by simp) rfl (fun id h => absurd rfl h) fun D => ?_
  refine of_eq (put_A ex ey d i s ez b 0 _) ?_
  rw [toCl_raw, toDk_A, bytesL_row]
  have hj : toJb (AV.st [(AV.v (Value.bool false)), (AV.st [(AV.i i), (AV.i s), (AV.dat (List.length b) false 1 (rowL b)), (hA (sumN b))])]) = putJ i s b := by
    show Jb.mk false (Cl.mk (asI (.i i)) (asI (.i s)) (bytesL b.length (rowL b)) (sumN b)) = _
    rw [bytesL_row]; rfl
  rw [hj]
  have hsum := sum_call (n := b.length) (e := 1) (ex := ez) (f := rowL b) (fun i _ => ⟨rfl, getD_small hs i⟩) (.inr rfl) (by omega)
  rw [bytesL_row] at hsum
  have hp : Fun C P F_push [dkA ex ey d, AV.st [(AV.v (Value.bool false)), (AV.st [(AV.i i), (AV.i s), (AV.dat (List.length b) false 1 (rowL b)), (hA (sumN b))])]] [] (dkA false false (pushD d (putJ i s b))) [] := (push_fun ex ey d (putJ i s b) hn).sim ⟨sm_same rfl, sm_st (sms_cons (sm_b rfl) (sms_cons (sm_same rfl) sms_nil)), trivial⟩ trivial
  refine ⟨cloneB_fun ez b hb, TC4, inrange_fun ⟨i, s, b, hz⟩, trivial, fun h => ?_, fun h => ⟨fun h2 => ?_, fun h2 => ?_⟩⟩
  · have h : (!inRng i s) = true := h
    have h0 : ¬ inRng i s = true := by simpa using h
    rw [show putD d i s b = d by unfold putD; rw [if_neg h0], show putE i s b = 1 by unfold putE; rw [if_neg h0]]
    exact ⟨TD2, post_cell_tmp rfl rfl (sm_dk ex ey d) rfl rfl (sm_int rfl) rfl rfl⟩
  · have h : (!inRng i s) = false := h
    have h0 : inRng i s = true := by simpa using h
    have h3 : 1048576 < b.length := by simp only [decide_eq_true_eq] at h2; omega
    rw [show putD d i s b = d by unfold putD; rw [if_pos h0, if_pos h3], show putE i s b = 2 by unfold putE; rw [if_pos h0, if_pos h3]]
    exact ⟨TD2, post_cell_tmp rfl rfl (sm_dk ex ey d) rfl rfl (sm_int rfl) rfl rfl⟩
  · have h : (!inRng i s) = false := h
    have h0 : inRng i s = true := by simpa using h
    have h3 : ¬ 1048576 < b.length := by simp only [decide_eq_false_iff_not] at h2; omega
    rw [show putD d i s b = pushD d (putJ i s b) by unfold putD; rw [if_pos h0, if_neg h3], show putE i s b = 0 by unfold putE; rw [if_pos h0, if_neg h3]]
    exact ⟨hsum, fun _ _ => trivial, ⟨rfl, rfl, fun _ _ => ⟨rfl, rfl⟩⟩, hp, TD2, post_cell_tmp rfl rfl (sm_same rfl) rfl rfl (sm_int rfl) rfl rfl⟩
theorem lput_fun (ex ey : Bool) (d : Dk) (i s : Int) (ez : Bool) (b : List Nat) (hs : Small b) (hb : b.length < 2 ^ 40) (hn : d.q.length < 2 ^ 38) : Fun C P F_lput [dkA ex ey d, .i i, .i s, dbA ez b] [] (.st [dkA false false (putD d i s b), .i (putE i s b)]) [] := by
  refine in_lput (W := w_lput) rfl 0 (by simp) rfl (fun id h => absurd rfl h) fun D => ?_
  refine of_eq (lput_A ex ey d i s ez b 0 _) ?_
  rw [toDk_A, bytesL_row]
  exact ⟨put_fun ex ey d i s ez b hs hb hn, TD2, ⟨TD2, ⟨rfl, rfl⟩, trivial⟩, post_cell rfl rfl (sm_same rfl) rfl⟩
end Go.Bu.W

namespace Go.Bu.W
open Sp
theorem rproper_fun (c : Cl) : Fun C P F_rproper [clA c] [] (.sb (rpB c)) [] := by
  refine in_rproper (W := w_rproper) rfl 0 (by simp) rfl (fun id h => absurd rfl h) fun D => ?_
  refine of_eq (rproper_A c 0 _) ?_
  unfold rpB inRng
  refine ⟨fun h1 => ⟨fun h2 => ⟨fun h3 => ⟨fun h4 => ?_, fun h4 => ?_⟩, fun h3 => ?_⟩, fun h2 => ?_⟩, fun h1 => ?_⟩
  · rw [show decide (0 ≤ c.i) = true from h1, h2, show decide (0 ≤ c.s) = true from h3, h4]
    exact post_tmp rfl (sm_same rfl)
  · rw [show decide (0 ≤ c.i) = true from h1, h2, show decide (0 ≤ c.s) = true from h3, h4]
    exact post_tmp rfl (sm_b rfl)
  · rw [show decide (0 ≤ c.i) = true from h1, h2, show decide (0 ≤ c.s) = false from h3]
    exact post_tmp rfl (sm_b rfl)
  · rw [show decide (0 ≤ c.i) = true from h1, h2]
    exact post_tmp rfl (sm_b rfl)
  · rw [show decide (0 ≤ c.i) = false from h1]
    exact post_tmp rfl (sm_b rfl)
end Go.Bu.W

namespace Go.Bu.W
open Sp
abbrev slC (id : Nat) (o : List Cl) : AV := .sl id [] 0 o.length o.length false 35
abbrev arC (o : List Cl) : AV := .arr o.length 35 (rowC o)
end Go.Bu.W

namespace Go.Bu.W
open Sp
def bLs : AV → List Bool
  | .dat n _ _ f => (List.range n).map fun i => asB (f i)
  | _ => []
def crRPerf : List AV → Option (AV × List (Nat × Blk))
  | [x, y] => some (csA false (perf (toCls x) (toJb y)), [])
  | _ => none
def crCont : List AV → Option (AV × List (Nat × Blk))
  | [x] => some (csA false (cont (toDk x)), [])
  | _ => none
def crSync : List AV → Option (AV × List (Nat × Blk))
  | [x] => some (dkA false false (syncD (toDk x)), [])
  | _ => none
def crCrash : List AV → Option (AV × List (Nat × Blk))
  | [x, y] => some (dkA false false (crashD (toDk x) (bLs y)), [])
  | _ => none
def crS7 (g : Nat) (args : List AV) (H : List (Nat × Blk)) : Option (AV × List (Nat × Blk)) :=
  sel (Nat.beq g F_rperf) (crRPerf args) <| sel (Nat.beq g F_rcont) (crCont args) <| sel (Nat.beq g F_rsync) (crSync args) <| sel (Nat.beq g F_rcrash) (crCrash args) <| crS4 g args H
end Go.Bu.W

namespace Go.Bu.W
open Sp
abbrev gotA (l : List Cl) (i s : Int) : AV := .st [.dat (gotB l i s).length false 1 (rowL (gotB l i s)), .i (gotE l i s)]
def crGet : List AV → Option (AV × List (Nat × Blk))
  | [x, i, s] => some (gotA (cont (toDk x)) (asI i) (asI s), [])
  | _ => none
def crS8 (g : Nat) (args : List AV) (H : List (Nat × Blk)) : Option (AV × List (Nat × Blk)) :=
  sel (Nat.beq g F_rget) (crGet args) <| sel (Nat.beq g F_lget) (crGet args) <| crS7 g args H
theorem VD.smc {d : Dk} (h : VD d) {c : Cl} (hc : c ∈ cont d) : Small c.b ∧ c.b.length < 2 ^ 40 := by
  obtain ⟨_, _, _, _, h5, h6, _⟩ := h.sync.cs c hc
  exact ⟨h6, by omega⟩
end Go.Bu.W


