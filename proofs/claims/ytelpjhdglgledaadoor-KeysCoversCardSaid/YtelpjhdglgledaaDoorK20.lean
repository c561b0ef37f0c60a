/- The fixed examples. -/
import Derived.Test.YtelpjhdglgledaaDoorK19
namespace Go.Bu.W
open Sp
def crU (g : Nat) (args : List AV) (H : List (Nat × Blk)) : Option (AV × List (Nat × Blk)) :=
  sel (Nat.beq g F_sanity) (some (.sb true, [])) <| crS7 g args H
def wayU (keep : List Nat) (nt : Nat) (cuts : List Nat) : Way := ⟨crU, fun _ => false, keep, [], nt, cuts, []⟩
def w_sanity : Way := wayU [0, 1, 2, 3, 4, 11, 22, 24, 44] 103 [2,5]
def S_sy2 (l0 : List Cv) : St := { tm := [(0, .v (.bool false)), (1, .ptr 1 [])], hp := [(1, .c (ksA false l0))], seen := [1] }
def S_sy5 (l0 l : List Cv) : St := { tm := [(1, .ptr 1 []), (2, .ptr 2 [])], hp := [(1, .c (ksA false l0)), (2, .c (ksA false l))], seen := [1, 2] }
def I_sy (l0 l : List Cv) (i : Nat) : St := { tm := [(1, .ptr 1 []), (2, .ptr 2 []), (3, .i i)], hp := [(1, .c (ksA false l0)), (2, .c (ksA false l))], seen := [1, 2] }

theorem sanity_A  {D : Dom} (K : Nat) (Φ : Ex → St → Prop) :
  (Holds C P 103 D K Φ (vc C w_sanity b_sanity [] (start [] []) lf)) =
  (Fun W.C W.P 22 [(AV.arr 32 1 (fun (x : Nat) => (AV.v (Value.int IntKind.u8 (0 : Int)))))] [] (AV.st [(AV.dat 1 false 34 (fun (i : Nat) => (W.cvA (W.cAt (W.newL (dN (fun (x : Nat) => (AV.v (Value.int IntKind.u8 (0 : Int)))))) i))))]) [] ∧
 ((((true = true) ∧ (true = true)) ∧ True) ∧
 (∃ (S2 : St), Ent W.C 103 D K (St.mk [(0, (AV.v (Value.bool false))), (1, (AV.ptr 1 []))] [(1, (Blk.c (AV.st [(AV.dat 1 false 34 (fun (i : Nat) => (W.cvA (W.cAt (W.newL (dN (fun (x : Nat) => (AV.v (Value.int IntKind.u8 (0 : Int)))))) i))))])))] [1]) S2 ∧ Holds W.C W.P 103 D K Φ (cutAt W.C w_sanity b_sanity [1, 1, 0, 0] S2 (after W.C w_sanity b_sanity [1, 1, 0, 0] [] lf))))) := by kernel_rfl
theorem sanity_C2 (l0 : List Cv) {D : Dom} (K : Nat) (Φ : Ex → St → Prop) :
  (Holds C P 103 D K Φ (cutAt C w_sanity b_sanity [1, 1, 0, 0] (S_sy2 l0) (after C w_sanity b_sanity [1, 1, 0, 0] [] lf))) =
  (Fun W.C W.P 17 [(AV.arr 32 1 (fun (x : Nat) => (AV.v (Value.int IntKind.u8 (0 : Int)))))] [] (AV.st [(AV.dat 1 false 34 (fun (i : Nat) => (W.cvA (W.cAt (W.newL (dN (fun (x : Nat) => (AV.v (Value.int IntKind.u8 (0 : Int)))))) i))))]) [] ∧
 (Fun W.C W.P 19 [(W.ksA false l0), (AV.st [(AV.dat 1 false 34 (fun (i : Nat) => (W.cvA (W.cAt (W.newL (dN (fun (x : Nat) => (AV.v (Value.int IntKind.u8 (0 : Int)))))) i))))])] [] (AV.sb (W.sameL (W.toKs (W.ksA false l0)) [(W.toCv (AV.st [(AV.i (0 : Int)), (AV.i (0 : Int)), (W.kyA (W.Cv.k (W.cAt (W.newL (dN (fun (x : Nat) => (AV.v (Value.int IntKind.u8 (0 : Int)))))) 0)))]))])) [] ∧
 (True ∧
 (((! (W.sameL (W.toKs (W.ksA false l0)) [(W.toCv (AV.st [(AV.i (0 : Int)), (AV.i (0 : Int)), (W.kyA (W.Cv.k (W.cAt (W.newL (dN (fun (x : Nat) => (AV.v (Value.int IntKind.u8 (0 : Int)))))) 0)))]))])) = true →
 (Φ Ex.ret (St.mk [(0, (AV.v (Value.bool false))), (1, (AV.ptr 1 [])), (11, (AV.v (Value.bool true)))] [(1, (Blk.c (W.ksA false l0)))] [1]))) ∧
 ((! (W.sameL (W.toKs (W.ksA false l0)) [(W.toCv (AV.st [(AV.i (0 : Int)), (AV.i (0 : Int)), (W.kyA (W.Cv.k (W.cAt (W.newL (dN (fun (x : Nat) => (AV.v (Value.int IntKind.u8 (0 : Int)))))) 0)))]))])) = false →
 (Fun W.C W.P 13 [(W.ksA false l0), (AV.i (0 : Int))] [] (W.ksA false (W.desL (W.toKs (W.ksA false l0)) (0 : Int))) [] ∧
  ((((true = true) ∧ (true = true)) ∧ True) ∧
  (∃ (S2 : St), Ent W.C 103 D K (St.mk [(0, (AV.v (Value.bool false))), (1, (AV.ptr 1 [])), (2, (AV.ptr 2 [])), (11, (AV.v (Value.bool false)))] [(1, (Blk.c (W.ksA false l0))), (2, (Blk.c (W.ksA false (W.desL (W.toKs (W.ksA false l0)) (0 : Int)))))] [2, 1]) S2 ∧ Holds W.C W.P 103 D K Φ (cutAt W.C w_sanity b_sanity [1, 1, 1, 1, 0, 0] S2 (after W.C w_sanity b_sanity [1, 1, 1, 1, 0, 0] [] lf)))))))))) := by kernel_rfl
theorem sanity_C5 (l0 l : List Cv) {D : Dom} (K : Nat) (Φ : Ex → St → Prop) :
  (Holds C P 103 D K Φ (cutAt C w_sanity b_sanity [1, 1, 1, 1, 0, 0] (S_sy5 l0 l) (after C w_sanity b_sanity [1, 1, 1, 1, 0, 0] [] lf))) =
  (Fun W.C W.P 14 [(W.ksA false l)] [] (AV.sb (W.validB (W.toKs (W.ksA false l)))) [] ∧
 (True ∧
 (((! (W.validB (W.toKs (W.ksA false l)))) = true →
 (Φ Ex.ret (St.mk [(0, (AV.v (Value.bool false))), (1, (AV.ptr 1 [])), (2, (AV.ptr 2 [])), (22, (AV.v (Value.bool true)))] [(1, (Blk.c (W.ksA false l0))), (2, (Blk.c (W.ksA false l)))] [1, 2]))) ∧
 ((! (W.validB (W.toKs (W.ksA false l)))) = false →
 ((((((List.length l) : Nat) : Int) != (12 : Int)) = true →
  (Φ Ex.ret (St.mk [(0, (AV.v (Value.bool false))), (1, (AV.ptr 1 [])), (2, (AV.ptr 2 [])), (22, (AV.v (Value.bool true)))] [(1, (Blk.c (W.ksA false l0))), (2, (Blk.c (W.ksA false l)))] [1, 2]))) ∧
  (((((List.length l) : Nat) : Int) != (12 : Int)) = false →
  (LoopOK W.C W.P 103 D K (bodyAt b_sanity [1, 1, 1, 1, 1, 0, 1, 0]) (St.mk [(1, (AV.ptr 1 [])), (2, (AV.ptr 2 [])), (3, (AV.i (0 : Int))), (22, (AV.v (Value.bool false)))] [(1, (Blk.c (W.ksA false l0))), (2, (Blk.c (W.ksA false l)))] [1, 2]) (fun (e : Ex) (S' : St) => Holds W.C W.P 103 D K Φ (after W.C w_sanity b_sanity [1, 1, 1, 1, 1, 0, 1, 0] [] lf e S'))))))))) := by kernel_rfl
noncomputable abbrev bd_sanity_0 : Code := bodyAt (b_sanity) [1, 1, 1, 1, 1, 0, 1, 0]
theorem ok_sanity_0 : codeOK bd_sanity_0 = true := by kernel_rfl
noncomputable abbrev rest_sanity_0 (D : Dom) (K : Nat) (Φ : Ex → St → Prop) : Ex → St → Prop := fun e S' => Holds C P 103 D K Φ (after C w_sanity (b_sanity) [1, 1, 1, 1, 1, 0, 1, 0] [] lf e S')
set_option maxRecDepth 1000000 in
theorem sanity_L0 (l0 l : List Cv) (i : Nat) {D : Dom} (K : Nat) (Φ : Ex → St → Prop) :
  (Holds C P 103 D K (RoundQ C 103 D K (I_sy l0 l) (fun i => i ≤ 12) (fun i => 12 - i) ((fun i => 12 - i) (i)) (rest_sanity_0 D K Φ)) (vc C w_sanity bd_sanity_0 [] ((I_sy l0 l) (i)) lf)) =
  (((decide (((i : Nat) : Int) < (12 : Int))) = true →
 ((((0 : Int) ≤ ((i : Nat) : Int)) ∧ (((i : Nat) : Int) < (((List.length l) : Nat) : Int))) ∧
  ((I64 ((12 : Int) - ((i : Nat) : Int))) ∧
  ((((W.Cv.d (W.cAt l i)) != ((12 : Int) - ((i : Nat) : Int))) = true →
  (Φ Ex.ret (St.mk [(0, (AV.v (Value.bool false))), (1, (AV.ptr 1 [])), (2, (AV.ptr 2 [])), (3, (AV.i ((i : Nat) : Int))), (24, (AV.v (Value.bool true))), (44, (AV.v (Value.bool true)))] [(1, (Blk.c (W.ksA false l0))), (2, (Blk.c (W.ksA false l)))] [1, 2]))) ∧
  (((W.Cv.d (W.cAt l i)) != ((12 : Int) - ((i : Nat) : Int))) = false →
  ((((0 : Int) ≤ ((i : Nat) : Int)) ∧ (((i : Nat) : Int) < (((List.length l) : Nat) : Int))) ∧
   ((((W.Cv.a (W.cAt l i)) != (1 : Int)) = true →
   (Φ Ex.ret (St.mk [(0, (AV.v (Value.bool false))), (1, (AV.ptr 1 [])), (2, (AV.ptr 2 [])), (3, (AV.i ((i : Nat) : Int))), (24, (AV.v (Value.bool true))), (44, (AV.v (Value.bool true)))] [(1, (Blk.c (W.ksA false l0))), (2, (Blk.c (W.ksA false l)))] [1, 2]))) ∧
   (((W.Cv.a (W.cAt l i)) != (1 : Int)) = false →
   ((I64 (((i + 1) : Nat) : Int)) ∧
    ((RoundQ C 103 D K (I_sy l0 l) (fun i => i ≤ 12) (fun i => 12 - i) ((fun i => 12 - i) (i)) (rest_sanity_0 D K Φ)) Ex.normal (St.mk [(1, (AV.ptr 1 [])), (2, (AV.ptr 2 [])), (3, (AV.i (((i + 1) : Nat) : Int))), (24, (AV.v (Value.bool true))), (44, (AV.v (Value.bool false)))] [(1, (Blk.c (W.ksA false l0))), (2, (Blk.c (W.ksA false l)))] [1, 2]))))))))))) ∧
 ((decide (((i : Nat) : Int) < (12 : Int))) = false →
 (Fun W.C W.P 20 [(W.ksA false l0)] [] (AV.i (W.leftI (W.toKs (W.ksA false l0)))) [] ∧
  (True ∧
  ((((W.leftI (W.toKs (W.ksA false l0))) == (4096 : Int)) = true →
  (Fun W.C W.P 20 [(W.ksA false l)] [] (AV.i (W.leftI (W.toKs (W.ksA false l)))) [] ∧
   (True ∧
   ((((W.leftI (W.toKs (W.ksA false l))) == (4095 : Int)) = true →
   (Fun W.C W.P 34 [(W.ksA false l)] [] (AV.sb (W.validB (W.toKs (W.ksA false l)))) [] ∧
    (True ∧
    (((W.validB (W.toKs (W.ksA false l))) = true →
    (Fun W.C W.P 16 [(AV.dat 2 false 1 (fun (i1 : Nat) => (nthD [(W.ksA false l), (W.ksA false l0)] (0 + i1) (AV.v (Value.tuple (List.toArray [])))))), (AV.i (0 : Int))] [] (AV.sb (W.knownB (W.toLs (AV.dat 2 false 1 (fun (i1 : Nat) => (nthD [(W.ksA false l), (W.ksA false l0)] (0 + i1) (AV.v (Value.tuple (List.toArray []))))))) (0 : Int))) [] ∧
     (True ∧
     (((W.knownB (W.toLs (AV.dat 2 false 1 (fun (i1 : Nat) => (nthD [(W.ksA false l), (W.ksA false l0)] (0 + i1) (AV.v (Value.tuple (List.toArray []))))))) (0 : Int)) = true →
     (Fun W.C W.P 16 [(AV.dat 2 false 1 (fun (i1 : Nat) => (nthD [(W.ksA false l), (W.ksA false l)] (0 + i1) (AV.v (Value.tuple (List.toArray [])))))), (AV.i (0 : Int))] [] (AV.sb (W.knownB (W.toLs (AV.dat 2 false 1 (fun (i1 : Nat) => (nthD [(W.ksA false l), (W.ksA false l)] (0 + i1) (AV.v (Value.tuple (List.toArray []))))))) (0 : Int))) [] ∧
      (True ∧
      (((! (W.knownB (W.toLs (AV.dat 2 false 1 (fun (i1 : Nat) => (nthD [(W.ksA false l), (W.ksA false l)] (0 + i1) (AV.v (Value.tuple (List.toArray []))))))) (0 : Int))) = true →
      (Fun W.C W.P 15 [(W.ksA false l), (AV.i (0 : Int))] [] (AV.st [(W.kyA (W.keyR (W.toKs (W.ksA false l)) (0 : Int))), (AV.i (W.keyE (W.toKs (W.ksA false l)) (0 : Int)))]) [] ∧
       (((∀ (i1 : Nat), ((i1 < 32) → True)) ∧ (True ∧ True)) ∧
       ((((W.keyE (W.toKs (W.ksA false l)) (0 : Int)) == (60 : Int)) = true →
       (Fun W.C W.P 15 [(W.ksA false l), (AV.i (4096 : Int))] [] (AV.st [(W.kyA (W.keyR (W.toKs (W.ksA false l)) (4096 : Int))), (AV.i (W.keyE (W.toKs (W.ksA false l)) (4096 : Int)))]) [] ∧
        (((∀ (i1 : Nat), ((i1 < 32) → True)) ∧ (True ∧ True)) ∧
        ((((W.keyE (W.toKs (W.ksA false l)) (4096 : Int)) == (1 : Int)) = true →
        (Fun W.C W.P 15 [(W.ksA false l), (AV.i (-1 : Int))] [] (AV.st [(W.kyA (W.keyR (W.toKs (W.ksA false l)) (-1 : Int))), (AV.i (W.keyE (W.toKs (W.ksA false l)) (-1 : Int)))]) [] ∧
         (((∀ (i1 : Nat), ((i1 < 32) → True)) ∧ (True ∧ True)) ∧
         ((((W.keyE (W.toKs (W.ksA false l)) (-1 : Int)) == (1 : Int)) = true →
         (Fun W.C W.P 15 [(W.ksA false l), (AV.i (1 : Int))] [] (AV.st [(W.kyA (W.keyR (W.toKs (W.ksA false l)) (1 : Int))), (AV.i (W.keyE (W.toKs (W.ksA false l)) (1 : Int)))]) [] ∧
          (((∀ (i1 : Nat), ((i1 < 32) → True)) ∧ (True ∧ True)) ∧
          (Fun W.C W.P 15 [(W.ksA false l0), (AV.i (1 : Int))] [] (AV.st [(W.kyA (W.keyR (W.toKs (W.ksA false l0)) (1 : Int))), (AV.i (W.keyE (W.toKs (W.ksA false l0)) (1 : Int)))]) [] ∧
          (((∀ (i1 : Nat), ((i1 < 32) → True)) ∧ (True ∧ True)) ∧
          ((∀ (i1 : Nat), ((i1 < 32) → ((IntKind.u8 = IntKind.u8) ∧ (IntKind.u8 = IntKind.u8)))) ∧
          ((((List.all (List.range 32) (fun (i1 : Nat) => ((((W.keyR (W.toKs (W.ksA false l)) (1 : Int) i1) : Nat) : Int) == (((W.keyR (W.toKs (W.ksA false l0)) (1 : Int) i1) : Nat) : Int)))) && (((W.keyE (W.toKs (W.ksA false l)) (1 : Int)) == (W.keyE (W.toKs (W.ksA false l0)) (1 : Int))) && true)) = true →
          (Fun W.C W.P 28 [(W.ksA false l), (AV.dat 4 false 1 (fun (i1 : Nat) => (nthD [(AV.i (5 : Int)), (AV.i (0 : Int)), (AV.i (-3 : Int)), (AV.i (4096 : Int))] (0 + i1) (AV.v (Value.tuple (List.toArray []))))))] [] (AV.dat (List.length (W.lostL (W.toKs (W.ksA false l)) (W.toIs (AV.dat 4 false 1 (fun (i1 : Nat) => (nthD [(AV.i (5 : Int)), (AV.i (0 : Int)), (AV.i (-3 : Int)), (AV.i (4096 : Int))] (0 + i1) (AV.v (Value.tuple (List.toArray []))))))))) false 1 (fun (i1 : Nat) => (AV.i (List.getD (W.lostL (W.toKs (W.ksA false l)) (W.toIs (AV.dat 4 false 1 (fun (i2 : Nat) => (nthD [(AV.i (5 : Int)), (AV.i (0 : Int)), (AV.i (-3 : Int)), (AV.i (4096 : Int))] (0 + i2) (AV.v (Value.tuple (List.toArray [])))))))) i1 (0 : Int))))) [] ∧
           (Fun W.C W.P 27 [(AV.dat (List.length (W.lostL (W.toKs (W.ksA false l)) (W.toIs (AV.dat 4 false 1 (fun (i1 : Nat) => (nthD [(AV.i (5 : Int)), (AV.i (0 : Int)), (AV.i (-3 : Int)), (AV.i (4096 : Int))] (0 + i1) (AV.v (Value.tuple (List.toArray []))))))))) false 1 (fun (i1 : Nat) => (AV.i (List.getD (W.lostL (W.toKs (W.ksA false l)) (W.toIs (AV.dat 4 false 1 (fun (i2 : Nat) => (nthD [(AV.i (5 : Int)), (AV.i (0 : Int)), (AV.i (-3 : Int)), (AV.i (4096 : Int))] (0 + i2) (AV.v (Value.tuple (List.toArray [])))))))) i1 (0 : Int))))), (AV.dat 3 false 1 (fun (i1 : Nat) => (nthD [(AV.i (0 : Int)), (AV.i (-3 : Int)), (AV.i (4096 : Int))] (0 + i1) (AV.v (Value.tuple (List.toArray []))))))] [] (AV.sb (W.intsB (W.toIs (AV.dat (List.length (W.lostL (W.toKs (W.ksA false l)) (W.toIs (AV.dat 4 false 1 (fun (i1 : Nat) => (nthD [(AV.i (5 : Int)), (AV.i (0 : Int)), (AV.i (-3 : Int)), (AV.i (4096 : Int))] (0 + i1) (AV.v (Value.tuple (List.toArray []))))))))) false 1 (fun (i1 : Nat) => (AV.i (List.getD (W.lostL (W.toKs (W.ksA false l)) (W.toIs (AV.dat 4 false 1 (fun (i2 : Nat) => (nthD [(AV.i (5 : Int)), (AV.i (0 : Int)), (AV.i (-3 : Int)), (AV.i (4096 : Int))] (0 + i2) (AV.v (Value.tuple (List.toArray [])))))))) i1 (0 : Int)))))) (W.toIs (AV.dat 3 false 1 (fun (i1 : Nat) => (nthD [(AV.i (0 : Int)), (AV.i (-3 : Int)), (AV.i (4096 : Int))] (0 + i1) (AV.v (Value.tuple (List.toArray []))))))))) [] ∧
           (True ∧
           (Φ Ex.ret (St.mk [(0, (AV.sb (W.intsB (W.toIs (AV.dat (List.length (W.lostL (W.toKs (W.ksA false l)) (W.toIs (AV.dat 4 false 1 (fun (i1 : Nat) => (nthD [(AV.i (5 : Int)), (AV.i (0 : Int)), (AV.i (-3 : Int)), (AV.i (4096 : Int))] (0 + i1) (AV.v (Value.tuple (List.toArray []))))))))) false 1 (fun (i1 : Nat) => (AV.i (List.getD (W.lostL (W.toKs (W.ksA false l)) (W.toIs (AV.dat 4 false 1 (fun (i2 : Nat) => (nthD [(AV.i (5 : Int)), (AV.i (0 : Int)), (AV.i (-3 : Int)), (AV.i (4096 : Int))] (0 + i2) (AV.v (Value.tuple (List.toArray [])))))))) i1 (0 : Int)))))) (W.toIs (AV.dat 3 false 1 (fun (i1 : Nat) => (nthD [(AV.i (0 : Int)), (AV.i (-3 : Int)), (AV.i (4096 : Int))] (0 + i1) (AV.v (Value.tuple (List.toArray [])))))))))), (1, (AV.ptr 1 [])), (2, (AV.ptr 2 [])), (3, (AV.i ((i : Nat) : Int))), (4, (AV.sb (! (W.knownB (W.toLs (AV.dat 2 false 1 (fun (i1 : Nat) => (nthD [(W.ksA false l), (W.ksA false l)] (0 + i1) (AV.v (Value.tuple (List.toArray []))))))) (0 : Int))))), (24, (AV.v (Value.bool false)))] [(1, (Blk.c (W.ksA false l0))), (2, (Blk.c (W.ksA false l))), (60, (Blk.c (AV.st [(W.ksA false l), (W.ksA false l0)]))), (66, (Blk.c (AV.st [(W.ksA false l), (W.ksA false l)]))), (100, (Blk.c (AV.st [(AV.i (0 : Int)), (AV.i (-3 : Int)), (AV.i (4096 : Int))])))] [100, 98, 66, 60, 1, 2])))))) ∧
          (((List.all (List.range 32) (fun (i1 : Nat) => ((((W.keyR (W.toKs (W.ksA false l)) (1 : Int) i1) : Nat) : Int) == (((W.keyR (W.toKs (W.ksA false l0)) (1 : Int) i1) : Nat) : Int)))) && (((W.keyE (W.toKs (W.ksA false l)) (1 : Int)) == (W.keyE (W.toKs (W.ksA false l0)) (1 : Int))) && true)) = false →
          (Φ Ex.ret (St.mk [(0, (AV.v (Value.bool false))), (1, (AV.ptr 1 [])), (2, (AV.ptr 2 [])), (3, (AV.i ((i : Nat) : Int))), (4, (AV.sb (! (W.knownB (W.toLs (AV.dat 2 false 1 (fun (i1 : Nat) => (nthD [(W.ksA false l), (W.ksA false l)] (0 + i1) (AV.v (Value.tuple (List.toArray []))))))) (0 : Int))))), (24, (AV.v (Value.bool false)))] [(1, (Blk.c (W.ksA false l0))), (2, (Blk.c (W.ksA false l))), (60, (Blk.c (AV.st [(W.ksA false l), (W.ksA false l0)]))), (66, (Blk.c (AV.st [(W.ksA false l), (W.ksA false l)])))] [66, 60, 1, 2])))))))))) ∧
         (((W.keyE (W.toKs (W.ksA false l)) (-1 : Int)) == (1 : Int)) = false →
         (Φ Ex.ret (St.mk [(0, (AV.v (Value.bool false))), (1, (AV.ptr 1 [])), (2, (AV.ptr 2 [])), (3, (AV.i ((i : Nat) : Int))), (4, (AV.sb (! (W.knownB (W.toLs (AV.dat 2 false 1 (fun (i1 : Nat) => (nthD [(W.ksA false l), (W.ksA false l)] (0 + i1) (AV.v (Value.tuple (List.toArray []))))))) (0 : Int))))), (24, (AV.v (Value.bool false)))] [(1, (Blk.c (W.ksA false l0))), (2, (Blk.c (W.ksA false l))), (60, (Blk.c (AV.st [(W.ksA false l), (W.ksA false l0)]))), (66, (Blk.c (AV.st [(W.ksA false l), (W.ksA false l)])))] [66, 60, 1, 2]))))))) ∧
        (((W.keyE (W.toKs (W.ksA false l)) (4096 : Int)) == (1 : Int)) = false →
        (Φ Ex.ret (St.mk [(0, (AV.v (Value.bool false))), (1, (AV.ptr 1 [])), (2, (AV.ptr 2 [])), (3, (AV.i ((i : Nat) : Int))), (4, (AV.sb (! (W.knownB (W.toLs (AV.dat 2 false 1 (fun (i1 : Nat) => (nthD [(W.ksA false l), (W.ksA false l)] (0 + i1) (AV.v (Value.tuple (List.toArray []))))))) (0 : Int))))), (24, (AV.v (Value.bool false)))] [(1, (Blk.c (W.ksA false l0))), (2, (Blk.c (W.ksA false l))), (60, (Blk.c (AV.st [(W.ksA false l), (W.ksA false l0)]))), (66, (Blk.c (AV.st [(W.ksA false l), (W.ksA false l)])))] [66, 60, 1, 2]))))))) ∧
       (((W.keyE (W.toKs (W.ksA false l)) (0 : Int)) == (60 : Int)) = false →
       (Φ Ex.ret (St.mk [(0, (AV.v (Value.bool false))), (1, (AV.ptr 1 [])), (2, (AV.ptr 2 [])), (3, (AV.i ((i : Nat) : Int))), (4, (AV.sb (! (W.knownB (W.toLs (AV.dat 2 false 1 (fun (i1 : Nat) => (nthD [(W.ksA false l), (W.ksA false l)] (0 + i1) (AV.v (Value.tuple (List.toArray []))))))) (0 : Int))))), (24, (AV.v (Value.bool false)))] [(1, (Blk.c (W.ksA false l0))), (2, (Blk.c (W.ksA false l))), (60, (Blk.c (AV.st [(W.ksA false l), (W.ksA false l0)]))), (66, (Blk.c (AV.st [(W.ksA false l), (W.ksA false l)])))] [66, 60, 1, 2]))))))) ∧
      ((! (W.knownB (W.toLs (AV.dat 2 false 1 (fun (i1 : Nat) => (nthD [(W.ksA false l), (W.ksA false l)] (0 + i1) (AV.v (Value.tuple (List.toArray []))))))) (0 : Int))) = false →
      (Φ Ex.ret (St.mk [(0, (AV.v (Value.bool false))), (1, (AV.ptr 1 [])), (2, (AV.ptr 2 [])), (3, (AV.i ((i : Nat) : Int))), (4, (AV.sb (! (W.knownB (W.toLs (AV.dat 2 false 1 (fun (i1 : Nat) => (nthD [(W.ksA false l), (W.ksA false l)] (0 + i1) (AV.v (Value.tuple (List.toArray []))))))) (0 : Int))))), (24, (AV.v (Value.bool false)))] [(1, (Blk.c (W.ksA false l0))), (2, (Blk.c (W.ksA false l))), (60, (Blk.c (AV.st [(W.ksA false l), (W.ksA false l0)]))), (66, (Blk.c (AV.st [(W.ksA false l), (W.ksA false l)])))] [66, 60, 1, 2]))))))) ∧
     ((W.knownB (W.toLs (AV.dat 2 false 1 (fun (i1 : Nat) => (nthD [(W.ksA false l), (W.ksA false l0)] (0 + i1) (AV.v (Value.tuple (List.toArray []))))))) (0 : Int)) = false →
     (Φ Ex.ret (St.mk [(0, (AV.v (Value.bool false))), (1, (AV.ptr 1 [])), (2, (AV.ptr 2 [])), (3, (AV.i ((i : Nat) : Int))), (4, (AV.v (Value.bool false))), (24, (AV.v (Value.bool false)))] [(1, (Blk.c (W.ksA false l0))), (2, (Blk.c (W.ksA false l))), (60, (Blk.c (AV.st [(W.ksA false l), (W.ksA false l0)])))] [60, 1, 2]))))))) ∧
    ((W.validB (W.toKs (W.ksA false l))) = false →
    (Φ Ex.ret (St.mk [(0, (AV.v (Value.bool false))), (1, (AV.ptr 1 [])), (2, (AV.ptr 2 [])), (3, (AV.i ((i : Nat) : Int))), (4, (AV.v (Value.bool false))), (24, (AV.v (Value.bool false)))] [(1, (Blk.c (W.ksA false l0))), (2, (Blk.c (W.ksA false l)))] [1, 2]))))))) ∧
   (((W.leftI (W.toKs (W.ksA false l))) == (4095 : Int)) = false →
   (Φ Ex.ret (St.mk [(0, (AV.v (Value.bool false))), (1, (AV.ptr 1 [])), (2, (AV.ptr 2 [])), (3, (AV.i ((i : Nat) : Int))), (4, (AV.v (Value.bool false))), (24, (AV.v (Value.bool false)))] [(1, (Blk.c (W.ksA false l0))), (2, (Blk.c (W.ksA false l)))] [1, 2]))))))) ∧
  (((W.leftI (W.toKs (W.ksA false l0))) == (4096 : Int)) = false →
  (Φ Ex.ret (St.mk [(0, (AV.v (Value.bool false))), (1, (AV.ptr 1 [])), (2, (AV.ptr 2 [])), (3, (AV.i ((i : Nat) : Int))), (4, (AV.v (Value.bool false))), (24, (AV.v (Value.bool false)))] [(1, (Blk.c (W.ksA false l0))), (2, (Blk.c (W.ksA false l)))] [1, 2])))))))) := by kernel_rfl

theorem tt_then {b : Bool} {p q : Prop} (h : b = true) (hp : p) : (b = true → p) ∧ (b = false → q) := ⟨fun _ => hp, fun hf => by rw [h] at hf; cases hf⟩
theorem ff_then {b : Bool} {p q : Prop} (h : b = false) (hq : q) : (b = true → p) ∧ (b = false → q) := ⟨fun hf => (by rw [h] at hf; cases hf), fun _ => hq⟩
theorem nf_then {b : Bool} {p q : Prop} (h : b = true) (hq : q) : ((!b) = true → p) ∧ ((!b) = false → q) := ff_then (by rw [h]; rfl) hq
theorem nt_then {b : Bool} {p q : Prop} (h : b = false) (hp : p) : ((!b) = true → p) ∧ ((!b) = false → q) := tt_then (by rw [h]; rfl) hp
/-- How many chunks are left. -/
def cntX (X : Int → Bool) (lo : Int) (n : Nat) : Nat := ((List.range n).filter fun (k : Nat) => !X (lo + (k : Int))).length
theorem cnt_add (X : Int → Bool) (lo : Int) (m n : Nat) : cntX X lo (m + n) = cntX X lo m + cntX X (lo + m) n := by
  unfold cntX
  rw [List.range_add, List.filter_append, List.length_append, List.filter_map, List.length_map]
  congr 2
  refine List.filter_congr fun k _ => ?_
  show (!X (lo + ((m + k : Nat) : Int))) = !X (lo + m + k)
  rw [show lo + ((m + k : Nat) : Int) = lo + m + k by omega]
theorem cnt_all {X : Int → Bool} {lo : Int} {n : Nat} (h : ∀ k, k < n → X (lo + k) = false) : cntX X lo n = n := by
  unfold cntX
  rw [List.filter_eq_self.2 fun k hk => by rw [h k (List.mem_range.1 hk)]; rfl, List.length_range]
theorem left_append (l q : List Cv) : leftI (l ++ q) = leftI l + leftI q := by unfold leftI; rw [List.map_append, List.sum_append]
theorem left_cov {X : Int → Bool} : ∀ {n : Nat} {c : Cv}, CvOK c → c.d + n = 12 → leftI (cov X n c) = (cntX X (loC c) (szI c.d).toNat : Nat)
  | 0, c, h, hd => by
    have hs : szI c.d = 1 := by rw [show c.d = ((12 : Nat) : Int) by omega]; decide
    simp only [cov]
    have hx : hasX X c = X (loC c) := by
      unfold hasX; rw [hs]
      show (X (loC c + ((0 : Nat) : Int)) || false) = _
      rw [Bool.or_false]; congr 1; omega
    rw [hx, hs]
    cases e : X (loC c) with
    | true => 
      have : cntX X (loC c) 1 = 0 := by
        unfold cntX
        rw [List.filter_eq_nil_iff.2 fun k hk => by
          have := List.mem_range.1 hk
          rw [show loC c + (k : Int) = loC c by omega, e]; simp]
        rfl
      rw [if_pos rfl]
      show leftI [] = ((cntX X (loC c) 1 : Nat) : Int)
      rw [this]; rfl
    | false =>
      rw [if_neg (by simp)]
      show leftI [c] = ((cntX X (loC c) 1 : Nat) : Int)
      rw [cnt_all fun k hk => by rw [show loC c + (k : Int) = loC c by omega, e]]
      show szI c.d + 0 = 1
      rw [hs]; rfl
  | n + 1, c, h, hd => by
    obtain ⟨r1, r2, r3, r4, r5⟩ := ch_range h (by omega)
    have o0 := ch_ok h (by omega) 0 (by decide)
    have o1 := ch_ok h (by omega) 1 (by decide)
    have d0 : (chC c 0).d + (n : Int) = 12 := by show c.d + 1 + (n : Int) = 12; omega
    have d1 : (chC c 1).d + (n : Int) = 12 := by show c.d + 1 + (n : Int) = 12; omega
    have e := sz_succ h.1 (by omega)
    have hs := (sz_mul (d := c.d + 1) (by have := h.1; omega) (by omega)).2
    have h0 := hi_lo (chC c 0)
    change hiC (chC c 0) = _ + szI (c.d + 1) at h0
    simp only [cov]
    cases hx : hasX X c with
    | true =>
      rw [if_pos rfl, left_append, left_cov o0 d0, left_cov o1 d1]
      show ((cntX X (loC (chC c 0)) (szI (c.d + 1)).toNat : Nat) : Int) + ((cntX X (loC (chC c 1)) (szI (c.d + 1)).toNat : Nat) : Int) = _
      rw [show (szI c.d).toNat = (szI (c.d + 1)).toNat + (szI (c.d + 1)).toNat by omega, cnt_add, r1, show loC c + ((szI (c.d + 1)).toNat : Int) = loC (chC c 1) by omega]
      omega
    | false =>
      rw [if_neg (by simp)]
      rw [cnt_all fun k hk => Bool.eq_false_iff.2 fun hh => by
        have := (hasX_iff (X := X) h).2 ⟨loC c + k, by omega, by rw [hi_lo]; omega, hh⟩
        rw [this] at hx; cases hx]
      show szI c.d + 0 = _
      omega
theorem left_KV {s : Nat → Nat} (hs : SmF s) (D : List Int) : leftI (KV s D) = (cntX (inX D) 0 4096 : Nat) := by
  unfold KV
  rw [left_cov (root_ok hs) (root_d s), root_lo, show szI (rootC s).d = 4096 by show szI 0 = 4096; decide]
  rfl
theorem KV_keyE {s : Nat → Nat} (hs : SmF s) (D : List Int) (id : Int) : keyE (KV s D) id = if inR id = true then (if inX D id = true then 60 else 0) else 1 := by
  unfold keyE
  rw [KV_has hs]
  cases inR id <;> cases inX D id <;> rfl
theorem aft0 : ∀ {n : Nat} {c : Cv}, CvOK c → c.a = 0 → c.d + n = 12 → befL n c 0 = [] ∧ (aftL n c 0).length = n ∧ ∀ i, i < n → (cAt (aftL n c 0) i).d = 12 - i ∧ (cAt (aftL n c 0) i).a = 1
  | 0, c, _, _, _ => ⟨rfl, rfl, fun i hi => absurd hi (Nat.not_lt_zero i)⟩
  | n + 1, c, h, ha, hd => by
    have f := cv_facts h
    have e := hi_lo c
    have hl : loC c = 0 := by unfold loC; rw [ha]; simp
    rcases step_is h (by omega) (id := 0) (by omega) (by omega) with ⟨s1, s2, s3, _⟩ | ⟨_, _, _, s4⟩
    · obtain ⟨i0, i1, i2⟩ := aft0 (n := n) (c := chC c 0) (ch_ok h (by omega) 0 (by decide)) (by show 2 * c.a + ((0 : Nat) : Int) = 0; omega) (by show c.d + 1 + (n : Int) = 12; omega)
      have hne : ¬ sideN c 0 = 1 := by omega
      simp only [befL, aftL]
      rw [if_neg hne, if_neg hne, s2, s3]
      refine ⟨i0, by rw [List.length_append, i1]; rfl, fun i hi => ?_⟩
      rw [cAt_append, i1]
      by_cases e : i < n
      · rw [if_pos e]; exact i2 i e
      · rw [if_neg e, show i - n = 0 by omega]
        show c.d + 1 = 12 - (i : Int) ∧ 2 * c.a + ((1 : Nat) : Int) = 1
        omega
    · have r := ch_range h (by omega)
      omega
theorem known_list {n : Nat} {ex : Bool} {f : Nat → AV} {ls : List (List Cv)} (x : Int) (hn : n = ls.length) (h60 : ls.length < 2 ^ 60) (hf : ∀ i, i < n → f i = ksA false (ls.getD i [])) (hv : LsOK ls) :
    Fun C P F_known [.dat n ex 1 f, .i x] [] (.sb (knownB ls x)) [] ∧ Fun C P F_rknown [.dat n ex 1 f, .i x] [] (.sb (knownB ls x)) [] ∧ toLs (.dat n ex 1 f) = ls := by
  subst hn
  refine ⟨(known_fun ex (fun _ => false) ls x h60 hv).sim ⟨sm_dat (fun h => h) hf, sm_same rfl, trivial⟩ trivial, (rknown_fun ex (fun _ => false) ls x h60 hv).sim ⟨sm_dat (fun h => h) hf, sm_same rfl, trivial⟩ trivial, ?_⟩
  unfold toLs
  apply List.ext_getElem
  · simp
  · intro i h1 h2
    simp only [List.getElem_map, List.getElem_range]
    rw [hf i h2, toKs_A]
    simp [List.getD_eq_getElem?_getD, List.getElem?_eq_getElem h2]
theorem ls_two {l q : List Cv} (hl : VL l ∧ l.length < 2 ^ 30) (hq : VL q ∧ q.length < 2 ^ 30) : LsOK [l, q] := fun i hi => by
  match i, hi with
  | 0, _ => exact hl
  | 1, _ => exact hq
theorem two_row (l q : List Cv) : ∀ i, i < 2 → (fun (i1 : Nat) => (nthD [(ksA false l), (ksA false q)] (0 + i1) (AV.v (Value.tuple (List.toArray []))))) i = ksA false ([l, q].getD i []) := fun i hi => by
  match i, hi with
  | 0, _ => rfl
  | 1, _ => rfl
theorem ints_list {n : Nat} {f : Nat → AV} {l : List Int} (hn : n = l.length) (hf : ∀ i, i < n → f i = .i (l.getD i 0)) : toIs (.dat n false 1 f) = l ∧ simR some (.dat n false 1 f) (iA false l) := by
  subst hn
  refine ⟨?_, sm_dat (by simp) hf⟩
  unfold toIs
  apply List.ext_getElem
  · simp
  · intro i h1 h2
    simp only [List.getElem_map, List.getElem_range]
    rw [hf i h2]
    simp [asI, List.getD_eq_getElem?_getD, List.getElem?_eq_getElem h2]
theorem sm0 : SmF fun _ => 0 := fun _ _ => Nat.zero_lt_succ _
theorem KV_small {s : Nat → Nat} (hs : SmF s) (D : List Int) : (KV s D).length < 2 ^ 30 := by have := KV_len hs D; omega
theorem new_same : [(toCv (AV.st [(AV.i (0 : Int)), (AV.i (0 : Int)), (kyA (Cv.k (cAt (newL (dN (fun (_ : Nat) => (AV.v (Value.int IntKind.u8 (0 : Int)))))) 0)))]))] = newL (fun _ => 0) := rfl
set_option maxRecDepth 1000000 in
theorem sanity_fun : Fun C P F_sanity [] [] (.sb true) [] := by
  obtain ⟨l0, hl0⟩ : ∃ l0, l0 = KV (fun _ => 0) [] := ⟨_, rfl⟩
  have hn0 : newL (fun _ => 0) = l0 := by rw [newL_KV, hl0]
  have hne : newL (dN (fun (_ : Nat) => (AV.v (Value.int IntKind.u8 (0 : Int))))) = l0 := hn0
  obtain ⟨l, hl⟩ : ∃ l, l = KV (fun _ => 0) [0] := ⟨_, rfl⟩
  have hd : desL l0 0 = l := by rw [hl0, hl]; exact KV_desL sm0 [] (by decide)
  have v0 : VL l0 := by rw [hl0]; exact KV_ok sm0 _
  have v1 : VL l := by rw [hl]; exact KV_ok sm0 _
  have n0 : l0.length < 2 ^ 30 := by rw [hl0]; exact KV_small sm0 _
  have n1 : l.length < 2 ^ 30 := by rw [hl]; exact KV_small sm0 _
  have haft : l = aftL 12 (rootC fun _ => 0) 0 := by
    rw [hl, ← KV_des sm0 [] (id := 0) (by decide), KV_nil]
    unfold desF
    have hst : stB (rootC fun _ => 0) 0 = true := (st_range (root_ok sm0)).2 ⟨by rw [root_lo]; decide, by rw [root_hi]; decide⟩
    rw [List.flatMap_cons, hst]
    show (befL 12 (rootC fun _ => 0) 0 ++ aftL 12 (rootC fun _ => 0) 0) ++ [] = _
    rw [(aft0 (root_ok sm0) rfl (root_d _)).1, List.nil_append, List.append_nil]
  obtain ⟨_, a1, a2⟩ := aft0 (n := 12) (root_ok sm0) rfl (root_d _)
  rw [← haft] at a1 a2
  refine in_sanity (W := w_sanity) rfl 0 (by simp) rfl (fun id h => absurd rfl h) fun D => ?_
  refine of_eq (sanity_A 0 _) ⟨new_fun (fun _ => 0), ⟨⟨rfl, rfl⟩, trivial⟩, cut_ok (S2 := S_sy2 l0) ?_ ?_⟩
  · rw [← hn0]; exact ent_of [(1, 1)] rfl (tm_cons rfl (sm_same rfl) (tm_cons rfl (sm_ptr rfl) tm_nil)) (hp_cons rfl rfl (sm_st (sms_cons (sm_dat (fun h => h) fun i _ => rfl) sms_nil)) hp_nil)
  refine of_eq (sanity_C2 l0 0 _) ?_
  rw [toKs_A, new_same, hn0]
  have hsame := rsame_fun false l0 false (newL fun _ => 0) (by omega)
  rw [hn0] at hsame
  refine ⟨rnew_fun (fun _ => 0), ?_, trivial, nf_then (sameL_refl l0) ⟨destroy_fun false l0 0 n0 v0, ⟨⟨rfl, rfl⟩, trivial⟩, cut_ok (S2 := S_sy5 l0 l) ?_ ?_⟩⟩
  · rw [hne, show (1 : Nat) = l0.length by rw [← hn0]; rfl]; exact hsame
  · rw [hd]; exact ent_of [(1, 1), (2, 2)] rfl (tm_cons rfl (sm_ptr rfl) (tm_cons rfl (sm_ptr rfl) tm_nil)) (hp_cons rfl rfl (sm_same rfl) (hp_cons rfl rfl (sm_same rfl) hp_nil))
  refine of_eq (sanity_C5 l0 l 0 _) ?_
  rw [toKs_A]
  refine ⟨rvalid_fun false l (by omega), trivial, nf_then v1.valid (bne_then (by rw [a1]; rfl) ?_)⟩
  refine loop_inv (W := w_sanity) ctx mixed ok_sanity_0 (I_sy l0 l) (fun i => i ≤ 12) (fun i => 12 - i) 0 (Nat.zero_le _) ?_ fun i hi => ?_
  · exact ent_of [(1, 1), (2, 2)] rfl (tm_cons rfl (sm_ptr rfl) (tm_cons rfl (sm_ptr rfl) (tm_cons rfl (sm_same rfl) tm_nil))) (hp_cons rfl rfl (sm_same rfl) (hp_cons rfl rfl (sm_same rfl) hp_nil))
  refine of_eq (sanity_L0 l0 l i 0 _) ⟨fun h => ?_, fun h => ?_⟩
  · simp only [decide_eq_true_eq] at h
    obtain ⟨a3, a4⟩ := a2 i (by omega)
    exact ⟨by omega, (by first | omega | decide | (unfold I64; omega)), bne_then a3 ⟨by omega, bne_then a4 ⟨(by first | omega | decide | (unfold I64; omega)), round_end (i + 1) (by omega) (ent_of [(1, 1), (2, 2)] rfl (tm_cons rfl (sm_ptr rfl) (tm_cons rfl (sm_ptr rfl) (tm_cons rfl (sm_same rfl) tm_nil))) (hp_cons rfl rfl (sm_same rfl) (hp_cons rfl rfl (sm_same rfl) hp_nil))) (by dsimp only; omega)⟩⟩⟩
  · clear h
    have hls := ls_two ⟨v1, n1⟩ ⟨v0, n0⟩
    have hls2 := ls_two ⟨v1, n1⟩ ⟨v1, n1⟩
    have hi5 : ∀ i, i < 4 → (fun (i1 : Nat) => (nthD [(AV.i (5 : Int)), (AV.i (0 : Int)), (AV.i (-3 : Int)), (AV.i (4096 : Int))] (0 + i1) (AV.v (Value.tuple (List.toArray []))))) i = .i (([5, 0, -3, 4096] : List Int).getD i 0) := fun i hi => by
      match i, hi with
      | 0, _ => rfl
      | 1, _ => rfl
      | 2, _ => rfl
      | 3, _ => rfl
    have hi3 : ∀ i, i < 3 → (fun (i1 : Nat) => (nthD [(AV.i (0 : Int)), (AV.i (-3 : Int)), (AV.i (4096 : Int))] (0 + i1) (AV.v (Value.tuple (List.toArray []))))) i = .i (([0, -3, 4096] : List Int).getD i 0) := fun i hi => by
      match i, hi with
      | 0, _ => rfl
      | 1, _ => rfl
      | 2, _ => rfl
    obtain ⟨t5, s5⟩ := ints_list (n := 4) (l := [5, 0, -3, 4096]) rfl hi5
    obtain ⟨t3, s3⟩ := ints_list (n := 3) (l := [0, -3, 4096]) rfl hi3
    obtain ⟨k1, _, k3⟩ := known_list (n := 2) (ls := [l, l0]) (ex := false) 0 rfl (show 2 < 2 ^ 60 by decide) (two_row l l0) hls
    obtain ⟨k4, _, k6⟩ := known_list (n := 2) (ls := [l, l]) (ex := false) 0 rfl (show 2 < 2 ^ 60 by decide) (two_row l l) hls2
    have eE : ∀ id, keyE l id = if inR id = true then (if inX [0] id = true then 60 else 0) else 1 := fun id => by rw [hl]; exact KV_keyE sm0 _ _
    have eE0 : ∀ id, keyE l0 id = if inR id = true then (if inX [] id = true then 60 else 0) else 1 := fun id => by rw [hl0]; exact KV_keyE sm0 _ _
    have hl1 : ∀ id, hasB l id = (inR id && !inX [0] id) := fun id => by rw [hl]; exact KV_has sm0 _ _
    have hl2 : ∀ id, hasB l0 id = (inR id && !inX [] id) := fun id => by rw [hl0]; exact KV_has sm0 _ _
    have kR : keyR l 1 = keyR l0 1 := by rw [hl, hl0, KV_keyR sm0, KV_keyR sm0]; rfl
    have c0 : leftI l0 = 4096 := by rw [hl0, left_KV sm0, cnt_all fun k _ => by simp [inX]]; rfl
    have c1 : leftI l = 4095 := by
      rw [hl, left_KV sm0, show 4096 = 1 + 4095 from rfl, cnt_add, cnt_all (lo := 0 + ((1 : Nat) : Int)) fun k _ => by simp [inX]; omega, show cntX (inX [0]) 0 1 = 0 by decide]
      rfl
    have hlost : lostL l [5, 0, -3, 4096] = [0, -3, 4096] := by
      unfold lostL
      simp only [hl1]
      rfl
    rw [toKs_A, toKs_A, k3, k6, t5, t3, hlost]
    refine ⟨kleft_fun false l0 (by omega) v0, trivial, tt_then (by rw [c0]; rfl) ⟨kleft_fun false l (by omega) v1, trivial, tt_then (by rw [c1]; rfl) ⟨valid_fun false l (by omega), trivial, tt_then v1.valid ⟨k1, trivial, tt_then ?_ ⟨k4, trivial, nt_then ?_ ?_⟩⟩⟩⟩⟩
    · show (hasB l 0 || (hasB l0 0 || false)) = true
      rw [hl1, hl2]; decide
    · show (hasB l 0 || (hasB l 0 || false)) = false
      rw [hl1]; decide
    have T : (∀ (i1 : Nat), ((i1 < 32) → True)) ∧ (True ∧ True) := ⟨fun _ _ => trivial, trivial, trivial⟩
    refine ⟨got_fun false l 0 (by omega) v1, T, tt_then (by rw [eE]; decide) ⟨got_fun false l 4096 (by omega) v1, T, tt_then (by rw [eE]; decide) ⟨got_fun false l (-1) (by omega) v1, T, tt_then (by rw [eE]; decide) ⟨got_fun false l 1 (by omega) v1, T, got_fun false l0 1 (by omega) v0, T, fun _ _ => ⟨rfl, rfl⟩, tt_then ?_ ?_⟩⟩⟩⟩
    · rw [kR, eE, eE0]
      rw [List.all_eq_true.2 fun i _ => by simp]
      decide
    · have hfl := lost_fun false l false [5, 0, -3, 4096] (by omega) v1 (by decide)
      rw [hlost] at hfl
      refine ⟨hfl.sim ⟨sm_same rfl, s5, trivial⟩ trivial, ?_⟩
      have ei : toIs (AV.dat ([0, -3, 4096] : List Int).length false 1 fun (i1 : Nat) => AV.i (([0, -3, 4096] : List Int).getD i1 0)) = [0, -3, 4096] := toIs_A false [0, -3, 4096]
      rw [ei]
      have hfi := ints_fun false [0, -3, 4096] false [0, -3, 4096] (by decide)
      exact ⟨hfi.sim ⟨sm_same rfl, s3, trivial⟩ trivial, trivial, post_tmp rfl (sm_sb (by decide))⟩
end Go.Bu.W

namespace Go.Bu.W
open Sp
def u16L (l : List Nat) : List Nat := bytesL l.length fun i => .v (.int .u16 ((l.getD i 0 : Nat) : Int))

theorem typed_ids {n : Nat} {x : AV} (h : Typed C.tt (n + 2) 22 x) : ∃ (ids : List Nat) (ex : Bool), (∀ i, i < ids.length → ids.getD i 0 < 65536) ∧ ids.length ≤ maxLen ∧ simR some x (u16A ex ids) := by
  have each : ∀ y, Typed C.tt (n + 1) 23 y → ∃ k : Nat, k < 65536 ∧ sim (fun _ => none) y (AV.v (.int .u16 (k : Int))) := fun y hy => by
    obtain ⟨z, rfl, g1, g2⟩ := typed_int (k := .u16) rfl hy
    have g1' : (0 : Int) ≤ z := g1
    have g2' : z ≤ 65535 := g2
    exact ⟨z.toNat, by omega, by show Value.int .u16 z = Value.int .u16 ((z.toNat : Nat) : Int); rw [show ((z.toNat : Nat) : Int) = z by omega]⟩
  obtain ⟨l, ex, h1, h2, h3⟩ := typed_list (tt := C.tt) (s := 23) rfl 0 (fun (k : Nat) => AV.v (.int .u16 (k : Int))) (fun k => k < 65536) each h
  refine ⟨l, ex, fun i hi => h2 _ ?_, h1, h3⟩
  rw [List.getD_eq_getElem?_getD, List.getElem?_eq_getElem hi]; exact List.getElem_mem hi
abbrev w16 (m : Nat) (w : Nat → Nat) : AV := .arr m 1 (fun i => .v (.int .u16 ((w i : Nat) : Int)))
theorem typed_w16 {n t m : Nat} {x : AV} (hd : (C.tt t).d = .array m 23 false) (h : Typed C.tt (n + 2) t x) : ∃ w : Nat → Nat, (∀ i, i < m → w i < 65536) ∧ simR some x (w16 m w) := by
  simp only [Typed, hd] at h
  obtain ⟨f, rfl, h2⟩ := h
  have each : ∀ i, i < m → f i = .v (.int .u16 ((dN f i : Nat) : Int)) ∧ dN f i < 65536 := fun i hi => by
    obtain ⟨z, e, g1, g2⟩ := typed_int (k := .u16) (t := 23) rfl (show Typed C.tt (n + 1) 23 (f i) from h2 i hi)
    have g1' : (0 : Int) ≤ z := g1
    have g2' : z ≤ 65535 := g2
    unfold dN
    rw [e]
    show AV.v (.int .u16 z) = AV.v (.int .u16 ((z.toNat : Nat) : Int)) ∧ z.toNat < 65536
    rw [show ((z.toNat : Nat) : Int) = z by omega]
    exact ⟨rfl, by omega⟩
  exact ⟨dN f, fun i hi => (each i hi).2, .inr ⟨rfl, rfl, fun i hi => .inl (each i hi).1⟩⟩
theorem u16L_eq (l : List Nat) : u16L l = l := by
  unfold u16L
  rw [bytesL_nat (g := fun i => l.getD i 0) fun i _ => rfl, range_getD]
theorem got_eq {a b : Nat → Nat} {x y : Int} (h1 : a = b) (h2 : x = y) : ((List.range 32).all (fun i => ((a i : Nat) : Int) == ((b i : Nat) : Int)) && ((x == y) && true)) = true := by
  subst h1 h2
  rw [List.all_eq_true.2 fun i _ => by simp]
  simp
/-- What is known of keys of a seed. -/
structure KOK (s : Nat → Nat) (D : List Int) (l : List Cv) : Prop where
  eq : l = KV s D
  sm : SmF s
theorem KOK.v {s : Nat → Nat} {D : List Int} {l : List Cv} (h : KOK s D l) : VL l := by rw [h.eq]; exact KV_ok h.sm D
theorem KOK.n {s : Nat → Nat} {D : List Int} {l : List Cv} (h : KOK s D l) : l.length < 2 ^ 30 := by rw [h.eq]; exact KV_small h.sm D
theorem KOK.E {s : Nat → Nat} {D : List Int} {l : List Cv} (h : KOK s D l) (id : Int) : keyE l id = if inR id = true then (if inX D id = true then 60 else 0) else 1 := by rw [h.eq]; exact KV_keyE h.sm D id
theorem KOK.R {s : Nat → Nat} {D : List Int} {l : List Cv} (h : KOK s D l) (id : Int) : keyR l id = if (inR id && !inX D id) = true then (leafC (rootC s) id).k else kz := by rw [h.eq]; exact KV_keyR h.sm D id
theorem KOK.B {s : Nat → Nat} {D : List Int} {l : List Cv} (h : KOK s D l) (id : Int) : hasB l id = (inR id && !inX D id) := by rw [h.eq]; exact KV_has h.sm D id
theorem KOK.des {s : Nat → Nat} {D : List Int} {l : List Cv} (h : KOK s D l) {id : Int} (hr : inR id = true) : KOK s (id :: D) (desL l id) := ⟨by rw [h.eq]; exact KV_desL h.sm D hr, h.sm⟩
theorem KOK.same {s : Nat → Nat} {D E : List Int} {l q : List Cv} (h : KOK s D l) (g : KOK s E q) (he : ∀ id, 0 ≤ id → id < 4096 → (id ∈ D ↔ id ∈ E)) : l = q := by rw [h.eq, g.eq]; exact KV_congr h.sm D he
theorem KOK.made (s : Nat) (ids : List Nat) : KOK (seedK s) (goneD ids) (KV (seedK s) (goneD ids)) := ⟨rfl, seed_ok s⟩
theorem T32 : (∀ (i1 : Nat), ((i1 < 32) → True)) ∧ (True ∧ True) := ⟨fun _ _ => trivial, trivial, trivial⟩
theorem TT : (((true = true) ∧ (true = true)) ∧ True) := ⟨⟨rfl, rfl⟩, trivial⟩
theorem one_row (l : List Cv) : ∀ i, i < 1 → (fun (i1 : Nat) => (nthD [(ksA false l)] (0 + i1) (AV.v (Value.tuple (List.toArray []))))) i = ksA false ([l].getD i []) := fun i hi => by
  match i, hi with
  | 0, _ => rfl
theorem ls_one {l : List Cv} (hl : VL l ∧ l.length < 2 ^ 30) : LsOK [l] := fun i hi => by
  match i, hi with
  | 0, _ => exact hl
theorem known_one {s : Nat → Nat} {D : List Int} {l : List Cv} (h : KOK s D l) (x : Int) : Fun C P F_known [(AV.dat 1 false 1 (fun (i : Nat) => (nthD [(ksA false l)] (0 + i) (AV.v (Value.tuple (List.toArray [])))))), .i x] [] (.sb (hasB l x)) [] ∧
    Fun C P F_rknown [(AV.dat 1 false 1 (fun (i : Nat) => (nthD [(ksA false l)] (0 + i) (AV.v (Value.tuple (List.toArray [])))))), .i x] [] (.sb (hasB l x)) [] ∧
    knownB (toLs (AV.dat 1 false 1 (fun (i : Nat) => (nthD [(ksA false l)] (0 + i) (AV.v (Value.tuple (List.toArray []))))))) x = hasB l x := by
  obtain ⟨k1, k2, k3⟩ := known_list (n := 1) (ls := [l]) (ex := false) x rfl (show 1 < 2 ^ 60 by decide) (one_row l) (ls_one ⟨h.v, h.n⟩)
  have e : knownB [l] x = hasB l x := by show (hasB l x || false) = _; rw [Bool.or_false]
  rw [e] at k1 k2
  exact ⟨k1, k2, by rw [k3, e]⟩
theorem inX_ne {D : List Int} {id o : Int} (h : o ≠ id) : inX (id :: D) o = inX D o := by
  unfold inX
  rw [decide_eq_decide]
  simp [h]
theorem inX_self (D : List Int) (id : Int) : inX (id :: D) id = true := by simp [inX]
end Go.Bu.W

