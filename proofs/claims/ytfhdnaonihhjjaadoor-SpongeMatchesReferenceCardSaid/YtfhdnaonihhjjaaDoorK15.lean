/- The digits of a hash, and reading them: contracts. -/
import Derived.Test.YtfhdnaonihhjjaaDoorK11
import Derived.Test.YtfhdnaonihhjjaaDoorK14
import Derived.Test.YtfhdnaonihhjjaaDoorK7
import Derived.Test.YtfhdnaonihhjjaaDoorK10
namespace Go.Bu.W
open Sp

def hexB (l : List Nat) : ByteArray := ⟨(Proofs.hexL l).toArray⟩


theorem print_fun (l : List Nat) (hl : l.length = 32) (hs : Small l) : Fun C P F_print [.arr 32 1 (rowL l)] [] (.v (.string (hexB l))) [] := by
  refine fun_calls (fn := Proofs.Tryd.f13) (c := b_print) Proofs.Tryd.func13 (by kernel_rfl) (by kernel_rfl) rfl fun w A ρ vs hlen hrv => ?_
  match vs, hlen with
  | [v], _ =>
    have hv := rv_arr (hrv 0 _ v rfl rfl)
    have : (List.range 32).map (fun i => Value.int .u8 ((l.getD i 0 : Nat) : Int)) = l.map fun n : Nat => Value.int .u8 (n : Int) := by
      conv => rhs; rw [← range_getD l, hl]
      rw [List.map_map]; rfl
    rw [hv, this]
    exact Proofs.Tryd.printWalk l hl hs w

theorem indexbyte_fun (s : ByteArray) (c : Int) : Fun C P F_indexbyte [.v (.string s), .v (.int .u8 c)] [] (.i (Lib.indexByte s.data.toList c.toNat.toUInt8)) [] := by
  refine fun_calls (fn := Proofs.Tryd.f33) (c := b_indexbyte) Proofs.Tryd.func33 (by kernel_rfl) (by kernel_rfl) rfl fun w A ρ vs hlen hrv => ?_
  match vs, hlen with
  | [v, u], _ =>
    rw [rv_v (hrv 0 _ v rfl rfl), rv_v (hrv 1 _ u rfl rfl)]
    refine (Proofs.Tryd.strings_IndexByte s c w).mono ?_
    rintro e w' ⟨rfl, rfl⟩
    exact ⟨rfl, RowKit.Below.refl _ _⟩
end Go.Bu.W

namespace Go.Bu.W
open Sp
def crPrint : List AV → Option (AV × List (Nat × Blk))
  | [.arr n _ f] => some (.v (.string (hexB (bytesL n f))), [])
  | _ => none
def crLaw (g : Nat) (args : List AV) (H : List (Nat × Blk)) : Option (AV × List (Nat × Blk)) :=
  sel (Nat.beq g F_print) (crPrint args) <| sel (Nat.beq g F_sanity) (some (.sb true, [])) <| crSp g args H
def wayL (keep : List Nat) (nt : Nat) (cuts : List Nat) : Way := ⟨crLaw, fun _ => false, keep, [], nt, cuts⟩
def w_sanity : Way := wayL [0, 1, 2, 3, 4] 48 []

theorem sanity_A  (K : Nat) (Φ : Ex → St → Prop) :
  (Holds C P 48 [] K Φ (vc C w_sanity b_sanity [] (start [] []) lf)) =
  (((0 : Nat) < (1 : Nat)) ∧
 (Fun W.C W.P (11 : Nat) [(AV.dat (0 : Nat) true (0 : Nat) (fun (x : Nat) => (AV.v (Value.tuple (List.toArray [])))))] [] (AV.arr (32 : Nat) (1 : Nat) (fun (i : Nat) => (AV.v (Value.int IntKind.u8 (((Sp.sumN (bytesL (0 : Nat) (fun (x : Nat) => (AV.v (Value.tuple (List.toArray []))))) i) : Nat) : Int))))) [] ∧
 ((∀ (i : Nat), ((i < (32 : Nat)) → True)) ∧
 (Fun W.C W.P (13 : Nat) [(AV.arr (32 : Nat) (1 : Nat) (fun (i : Nat) => (AV.v (Value.int IntKind.u8 (((Sp.sumN (bytesL (0 : Nat) (fun (x : Nat) => (AV.v (Value.tuple (List.toArray []))))) i) : Nat) : Int)))))] [] (AV.v (Value.string (W.hexB (bytesL (32 : Nat) (fun (i : Nat) => (AV.v (Value.int IntKind.u8 (((Sp.sumN (bytesL (0 : Nat) (fun (x : Nat) => (AV.v (Value.tuple (List.toArray []))))) i) : Nat) : Int)))))))) [] ∧
 (True ∧
 ((true = true → 
 (((0 : Nat) < (3 : Nat)) ∧
  (Fun W.C W.P (11 : Nat) [(AV.dat (3 : Nat) false (1 : Nat) (fun (i : Nat) => (nthD [(AV.v (Value.int IntKind.u8 (97 : Int))), (AV.v (Value.int IntKind.u8 (98 : Int))), (AV.v (Value.int IntKind.u8 (99 : Int)))] ((0 : Nat) + i) (AV.v (Value.tuple (List.toArray []))))))] [] (AV.arr (32 : Nat) (1 : Nat) (fun (i : Nat) => (AV.v (Value.int IntKind.u8 (((Sp.sumN (bytesL (3 : Nat) (fun (i1 : Nat) => (nthD [(AV.v (Value.int IntKind.u8 (97 : Int))), (AV.v (Value.int IntKind.u8 (98 : Int))), (AV.v (Value.int IntKind.u8 (99 : Int)))] ((0 : Nat) + i1) (AV.v (Value.tuple (List.toArray [])))))) i) : Nat) : Int))))) [] ∧
  ((∀ (i : Nat), ((i < (32 : Nat)) → True)) ∧
  (Fun W.C W.P (13 : Nat) [(AV.arr (32 : Nat) (1 : Nat) (fun (i : Nat) => (AV.v (Value.int IntKind.u8 (((Sp.sumN (bytesL (3 : Nat) (fun (i1 : Nat) => (nthD [(AV.v (Value.int IntKind.u8 (97 : Int))), (AV.v (Value.int IntKind.u8 (98 : Int))), (AV.v (Value.int IntKind.u8 (99 : Int)))] ((0 : Nat) + i1) (AV.v (Value.tuple (List.toArray [])))))) i) : Nat) : Int)))))] [] (AV.v (Value.string (W.hexB (bytesL (32 : Nat) (fun (i : Nat) => (AV.v (Value.int IntKind.u8 (((Sp.sumN (bytesL (3 : Nat) (fun (i1 : Nat) => (nthD [(AV.v (Value.int IntKind.u8 (97 : Int))), (AV.v (Value.int IntKind.u8 (98 : Int))), (AV.v (Value.int IntKind.u8 (99 : Int)))] ((0 : Nat) + i1) (AV.v (Value.tuple (List.toArray [])))))) i) : Nat) : Int)))))))) [] ∧
  (True ∧
  (Fun W.C W.P (15 : Nat) [(AV.v (Value.int IntKind.u8 (65 : Int))), (AV.dat (2 : Nat) false (1 : Nat) (fun (i : Nat) => (nthD [(AV.dat (1 : Nat) false (1 : Nat) (fun (i1 : Nat) => (nthD [(AV.v (Value.int IntKind.u8 (120 : Int)))] ((0 : Nat) + i1) (AV.v (Value.tuple (List.toArray [])))))), (AV.dat (0 : Nat) false (1 : Nat) (fun (i1 : Nat) => (AV.v (Value.tuple (List.toArray [])))))] ((0 : Nat) + i) (AV.v (Value.tuple (List.toArray []))))))] [] (AV.arr (32 : Nat) (1 : Nat) (fun (i : Nat) => (AV.v (Value.int IntKind.u8 (((Sp.sumN (Sp.ofBytes (65 : Nat) (partsL (2 : Nat) (fun (i1 : Nat) => (nthD [(AV.dat (1 : Nat) false (1 : Nat) (fun (i2 : Nat) => (nthD [(AV.v (Value.int IntKind.u8 (120 : Int)))] ((0 : Nat) + i2) (AV.v (Value.tuple (List.toArray [])))))), (AV.dat (0 : Nat) false (1 : Nat) (fun (i2 : Nat) => (AV.v (Value.tuple (List.toArray [])))))] ((0 : Nat) + i1) (AV.v (Value.tuple (List.toArray []))))))) i) : Nat) : Int))))) [] ∧
  ((∀ (i : Nat), ((i < (32 : Nat)) → True)) ∧
  (Fun W.C W.P (13 : Nat) [(AV.arr (32 : Nat) (1 : Nat) (fun (i : Nat) => (AV.v (Value.int IntKind.u8 (((Sp.sumN (Sp.ofBytes (65 : Nat) (partsL (2 : Nat) (fun (i1 : Nat) => (nthD [(AV.dat (1 : Nat) false (1 : Nat) (fun (i2 : Nat) => (nthD [(AV.v (Value.int IntKind.u8 (120 : Int)))] ((0 : Nat) + i2) (AV.v (Value.tuple (List.toArray [])))))), (AV.dat (0 : Nat) false (1 : Nat) (fun (i2 : Nat) => (AV.v (Value.tuple (List.toArray [])))))] ((0 : Nat) + i1) (AV.v (Value.tuple (List.toArray []))))))) i) : Nat) : Int)))))] [] (AV.v (Value.string (W.hexB (bytesL (32 : Nat) (fun (i : Nat) => (AV.v (Value.int IntKind.u8 (((Sp.sumN (Sp.ofBytes (65 : Nat) (partsL (2 : Nat) (fun (i1 : Nat) => (nthD [(AV.dat (1 : Nat) false (1 : Nat) (fun (i2 : Nat) => (nthD [(AV.v (Value.int IntKind.u8 (120 : Int)))] ((0 : Nat) + i2) (AV.v (Value.tuple (List.toArray [])))))), (AV.dat (0 : Nat) false (1 : Nat) (fun (i2 : Nat) => (AV.v (Value.tuple (List.toArray [])))))] ((0 : Nat) + i1) (AV.v (Value.tuple (List.toArray []))))))) i) : Nat) : Int)))))))) [] ∧
  (True ∧
  ((true = true → 
  (Fun W.C W.P (15 : Nat) [(AV.v (Value.int IntKind.u8 (65 : Int))), (AV.dat (2 : Nat) false (1 : Nat) (fun (i : Nat) => (nthD [(AV.dat (0 : Nat) false (1 : Nat) (fun (i1 : Nat) => (AV.v (Value.tuple (List.toArray []))))), (AV.dat (1 : Nat) false (1 : Nat) (fun (i1 : Nat) => (nthD [(AV.v (Value.int IntKind.u8 (120 : Int)))] ((0 : Nat) + i1) (AV.v (Value.tuple (List.toArray []))))))] ((0 : Nat) + i) (AV.v (Value.tuple (List.toArray []))))))] [] (AV.arr (32 : Nat) (1 : Nat) (fun (i : Nat) => (AV.v (Value.int IntKind.u8 (((Sp.sumN (Sp.ofBytes (65 : Nat) (partsL (2 : Nat) (fun (i1 : Nat) => (nthD [(AV.dat (0 : Nat) false (1 : Nat) (fun (i2 : Nat) => (AV.v (Value.tuple (List.toArray []))))), (AV.dat (1 : Nat) false (1 : Nat) (fun (i2 : Nat) => (nthD [(AV.v (Value.int IntKind.u8 (120 : Int)))] ((0 : Nat) + i2) (AV.v (Value.tuple (List.toArray []))))))] ((0 : Nat) + i1) (AV.v (Value.tuple (List.toArray []))))))) i) : Nat) : Int))))) [] ∧
   ((∀ (i : Nat), ((i < (32 : Nat)) → True)) ∧
   (Fun W.C W.P (13 : Nat) [(AV.arr (32 : Nat) (1 : Nat) (fun (i : Nat) => (AV.v (Value.int IntKind.u8 (((Sp.sumN (Sp.ofBytes (65 : Nat) (partsL (2 : Nat) (fun (i1 : Nat) => (nthD [(AV.dat (0 : Nat) false (1 : Nat) (fun (i2 : Nat) => (AV.v (Value.tuple (List.toArray []))))), (AV.dat (1 : Nat) false (1 : Nat) (fun (i2 : Nat) => (nthD [(AV.v (Value.int IntKind.u8 (120 : Int)))] ((0 : Nat) + i2) (AV.v (Value.tuple (List.toArray []))))))] ((0 : Nat) + i1) (AV.v (Value.tuple (List.toArray []))))))) i) : Nat) : Int)))))] [] (AV.v (Value.string (W.hexB (bytesL (32 : Nat) (fun (i : Nat) => (AV.v (Value.int IntKind.u8 (((Sp.sumN (Sp.ofBytes (65 : Nat) (partsL (2 : Nat) (fun (i1 : Nat) => (nthD [(AV.dat (0 : Nat) false (1 : Nat) (fun (i2 : Nat) => (AV.v (Value.tuple (List.toArray []))))), (AV.dat (1 : Nat) false (1 : Nat) (fun (i2 : Nat) => (nthD [(AV.v (Value.int IntKind.u8 (120 : Int)))] ((0 : Nat) + i2) (AV.v (Value.tuple (List.toArray []))))))] ((0 : Nat) + i1) (AV.v (Value.tuple (List.toArray []))))))) i) : Nat) : Int)))))))) [] ∧
   (True ∧
   ((true = true → 
   ((true = true → 
    (Fun W.C W.P (17 : Nat) [(AV.arr (32 : Nat) (1 : Nat) (fun (x : Nat) => (AV.v (Value.int IntKind.u8 (0 : Int))))), (AV.v (Value.int IntKind.i64 (7 : Int))), (AV.v (Value.int IntKind.i64 (4 : Int)))] [] (AV.sl (0 : Nat) [] (0 : Nat) (4 : Nat) (4 : Nat) false (1 : Nat)) [((0 : Nat), (Blk.c (AV.arr (4 : Nat) (1 : Nat) (fun (i : Nat) => (AV.v (Value.int IntKind.u8 (((W.streamN (bytesL (32 : Nat) (fun (x : Nat) => (AV.v (Value.int IntKind.u8 (0 : Int))))) (7 : Int) (4 : Nat) i) : Nat) : Int)))))))] ∧
     ((∀ (i : Nat), ((i < (4 : Nat)) → (((0 : Int) ≤ (((W.streamN (bytesL (32 : Nat) (fun (x : Nat) => (AV.v (Value.int IntKind.u8 (0 : Int))))) (7 : Int) (4 : Nat) ((0 : Nat) + i)) : Nat) : Int)) ∧ ((((W.streamN (bytesL (32 : Nat) (fun (x : Nat) => (AV.v (Value.int IntKind.u8 (0 : Int))))) (7 : Int) (4 : Nat) ((0 : Nat) + i)) : Nat) : Int) < (256 : Int))))) ∧
     ((true = true → 
     (Fun W.C W.P (17 : Nat) [(AV.arr (32 : Nat) (1 : Nat) (fun (x : Nat) => (AV.v (Value.int IntKind.u8 (0 : Int))))), (AV.v (Value.int IntKind.i64 (7 : Int))), (AV.v (Value.int IntKind.i64 (-1 : Int)))] [] (AV.sl (0 : Nat) [] (0 : Nat) (0 : Nat) (0 : Nat) false (1 : Nat)) [((0 : Nat), (Blk.c (AV.arr (0 : Nat) (1 : Nat) (fun (i : Nat) => (AV.v (Value.int IntKind.u8 (((W.streamN (bytesL (32 : Nat) (fun (x : Nat) => (AV.v (Value.int IntKind.u8 (0 : Int))))) (7 : Int) (0 : Nat) i) : Nat) : Int)))))))] ∧
      (Φ Ex.ret (St.mk [((0 : Nat), (AV.sb true)), ((1 : Nat), (AV.sl (5 : Nat) [] (0 : Nat) (1 : Nat) (1 : Nat) true (1 : Nat))), ((2 : Nat), (AV.sl (7 : Nat) [] (0 : Nat) (0 : Nat) (0 : Nat) true (1 : Nat))), ((3 : Nat), (AV.sb true)), ((4 : Nat), (AV.sb true))] [((5 : Nat), (Blk.c (AV.st [(AV.v (Value.int IntKind.u8 (120 : Int)))]))), ((7 : Nat), (Blk.c (AV.st []))), ((12 : Nat), (Blk.c (AV.st [(AV.v (Value.int IntKind.u8 (97 : Int))), (AV.v (Value.int IntKind.u8 (98 : Int))), (AV.v (Value.int IntKind.u8 (99 : Int)))]))), ((20 : Nat), (Blk.c (AV.st [(AV.sl (5 : Nat) [] (0 : Nat) (1 : Nat) (1 : Nat) true (1 : Nat)), (AV.sl (7 : Nat) [] (0 : Nat) (0 : Nat) (0 : Nat) true (1 : Nat))]))), ((27 : Nat), (Blk.c (AV.st [(AV.sl (7 : Nat) [] (0 : Nat) (0 : Nat) (0 : Nat) true (1 : Nat)), (AV.sl (5 : Nat) [] (0 : Nat) (1 : Nat) (1 : Nat) true (1 : Nat))]))), ((38 : Nat), (Blk.c (AV.arr (4 : Nat) (1 : Nat) (fun (i : Nat) => (AV.v (Value.int IntKind.u8 (((W.streamN (bytesL (32 : Nat) (fun (x : Nat) => (AV.v (Value.int IntKind.u8 (0 : Int))))) (7 : Int) (4 : Nat) i) : Nat) : Int))))))), ((44 : Nat), (Blk.c (AV.arr (0 : Nat) (1 : Nat) (fun (i : Nat) => (AV.v (Value.int IntKind.u8 (((W.streamN (bytesL (32 : Nat) (fun (x : Nat) => (AV.v (Value.int IntKind.u8 (0 : Int))))) (7 : Int) (0 : Nat) i) : Nat) : Int)))))))] [(44 : Nat), (38 : Nat), (27 : Nat), (20 : Nat), (12 : Nat), (7 : Nat), (5 : Nat)])))) ∧
     (true = false → 
     (Φ Ex.ret (St.mk [((0 : Nat), (AV.v (Value.bool false))), ((1 : Nat), (AV.sl (5 : Nat) [] (0 : Nat) (1 : Nat) (1 : Nat) true (1 : Nat))), ((2 : Nat), (AV.sl (7 : Nat) [] (0 : Nat) (0 : Nat) (0 : Nat) true (1 : Nat))), ((3 : Nat), (AV.sb true)), ((4 : Nat), (AV.sb true))] [((5 : Nat), (Blk.c (AV.st [(AV.v (Value.int IntKind.u8 (120 : Int)))]))), ((7 : Nat), (Blk.c (AV.st []))), ((12 : Nat), (Blk.c (AV.st [(AV.v (Value.int IntKind.u8 (97 : Int))), (AV.v (Value.int IntKind.u8 (98 : Int))), (AV.v (Value.int IntKind.u8 (99 : Int)))]))), ((20 : Nat), (Blk.c (AV.st [(AV.sl (5 : Nat) [] (0 : Nat) (1 : Nat) (1 : Nat) true (1 : Nat)), (AV.sl (7 : Nat) [] (0 : Nat) (0 : Nat) (0 : Nat) true (1 : Nat))]))), ((27 : Nat), (Blk.c (AV.st [(AV.sl (7 : Nat) [] (0 : Nat) (0 : Nat) (0 : Nat) true (1 : Nat)), (AV.sl (5 : Nat) [] (0 : Nat) (1 : Nat) (1 : Nat) true (1 : Nat))]))), ((38 : Nat), (Blk.c (AV.arr (4 : Nat) (1 : Nat) (fun (i : Nat) => (AV.v (Value.int IntKind.u8 (((W.streamN (bytesL (32 : Nat) (fun (x : Nat) => (AV.v (Value.int IntKind.u8 (0 : Int))))) (7 : Int) (4 : Nat) i) : Nat) : Int)))))))] [(38 : Nat), (27 : Nat), (20 : Nat), (12 : Nat), (7 : Nat), (5 : Nat)]))))))) ∧
    (true = false → 
    (Φ Ex.ret (St.mk [((0 : Nat), (AV.v (Value.bool false))), ((1 : Nat), (AV.sl (5 : Nat) [] (0 : Nat) (1 : Nat) (1 : Nat) true (1 : Nat))), ((2 : Nat), (AV.sl (7 : Nat) [] (0 : Nat) (0 : Nat) (0 : Nat) true (1 : Nat))), ((3 : Nat), (AV.sb true)), ((4 : Nat), (AV.sb true))] [((5 : Nat), (Blk.c (AV.st [(AV.v (Value.int IntKind.u8 (120 : Int)))]))), ((7 : Nat), (Blk.c (AV.st []))), ((12 : Nat), (Blk.c (AV.st [(AV.v (Value.int IntKind.u8 (97 : Int))), (AV.v (Value.int IntKind.u8 (98 : Int))), (AV.v (Value.int IntKind.u8 (99 : Int)))]))), ((20 : Nat), (Blk.c (AV.st [(AV.sl (5 : Nat) [] (0 : Nat) (1 : Nat) (1 : Nat) true (1 : Nat)), (AV.sl (7 : Nat) [] (0 : Nat) (0 : Nat) (0 : Nat) true (1 : Nat))]))), ((27 : Nat), (Blk.c (AV.st [(AV.sl (7 : Nat) [] (0 : Nat) (0 : Nat) (0 : Nat) true (1 : Nat)), (AV.sl (5 : Nat) [] (0 : Nat) (1 : Nat) (1 : Nat) true (1 : Nat))])))] [(27 : Nat), (20 : Nat), (12 : Nat), (7 : Nat), (5 : Nat)]))))) ∧
   (true = false → 
   (Φ Ex.ret (St.mk [((0 : Nat), (AV.v (Value.bool false))), ((1 : Nat), (AV.sl (5 : Nat) [] (0 : Nat) (1 : Nat) (1 : Nat) true (1 : Nat))), ((2 : Nat), (AV.sl (7 : Nat) [] (0 : Nat) (0 : Nat) (0 : Nat) true (1 : Nat))), ((3 : Nat), (AV.sb true)), ((4 : Nat), (AV.sb true))] [((5 : Nat), (Blk.c (AV.st [(AV.v (Value.int IntKind.u8 (120 : Int)))]))), ((7 : Nat), (Blk.c (AV.st []))), ((12 : Nat), (Blk.c (AV.st [(AV.v (Value.int IntKind.u8 (97 : Int))), (AV.v (Value.int IntKind.u8 (98 : Int))), (AV.v (Value.int IntKind.u8 (99 : Int)))]))), ((20 : Nat), (Blk.c (AV.st [(AV.sl (5 : Nat) [] (0 : Nat) (1 : Nat) (1 : Nat) true (1 : Nat)), (AV.sl (7 : Nat) [] (0 : Nat) (0 : Nat) (0 : Nat) true (1 : Nat))]))), ((27 : Nat), (Blk.c (AV.st [(AV.sl (7 : Nat) [] (0 : Nat) (0 : Nat) (0 : Nat) true (1 : Nat)), (AV.sl (5 : Nat) [] (0 : Nat) (1 : Nat) (1 : Nat) true (1 : Nat))])))] [(27 : Nat), (20 : Nat), (12 : Nat), (7 : Nat), (5 : Nat)]))))))))) ∧
  (true = false → 
  ((true = true → 
   (Φ Ex.ret (St.mk [((0 : Nat), (AV.v (Value.bool false))), ((1 : Nat), (AV.sl (5 : Nat) [] (0 : Nat) (1 : Nat) (1 : Nat) true (1 : Nat))), ((2 : Nat), (AV.sl (7 : Nat) [] (0 : Nat) (0 : Nat) (0 : Nat) true (1 : Nat))), ((3 : Nat), (AV.sb true)), ((4 : Nat), (AV.v (Value.bool false)))] [((5 : Nat), (Blk.c (AV.st [(AV.v (Value.int IntKind.u8 (120 : Int)))]))), ((7 : Nat), (Blk.c (AV.st []))), ((12 : Nat), (Blk.c (AV.st [(AV.v (Value.int IntKind.u8 (97 : Int))), (AV.v (Value.int IntKind.u8 (98 : Int))), (AV.v (Value.int IntKind.u8 (99 : Int)))]))), ((20 : Nat), (Blk.c (AV.st [(AV.sl (5 : Nat) [] (0 : Nat) (1 : Nat) (1 : Nat) true (1 : Nat)), (AV.sl (7 : Nat) [] (0 : Nat) (0 : Nat) (0 : Nat) true (1 : Nat))])))] [(20 : Nat), (12 : Nat), (7 : Nat), (5 : Nat)]))) ∧
   (true = false → 
   (Φ Ex.ret (St.mk [((0 : Nat), (AV.v (Value.bool false))), ((1 : Nat), (AV.sl (5 : Nat) [] (0 : Nat) (1 : Nat) (1 : Nat) true (1 : Nat))), ((2 : Nat), (AV.sl (7 : Nat) [] (0 : Nat) (0 : Nat) (0 : Nat) true (1 : Nat))), ((3 : Nat), (AV.sb true)), ((4 : Nat), (AV.v (Value.bool false)))] [((5 : Nat), (Blk.c (AV.st [(AV.v (Value.int IntKind.u8 (120 : Int)))]))), ((7 : Nat), (Blk.c (AV.st []))), ((12 : Nat), (Blk.c (AV.st [(AV.v (Value.int IntKind.u8 (97 : Int))), (AV.v (Value.int IntKind.u8 (98 : Int))), (AV.v (Value.int IntKind.u8 (99 : Int)))]))), ((20 : Nat), (Blk.c (AV.st [(AV.sl (5 : Nat) [] (0 : Nat) (1 : Nat) (1 : Nat) true (1 : Nat)), (AV.sl (7 : Nat) [] (0 : Nat) (0 : Nat) (0 : Nat) true (1 : Nat))])))] [(20 : Nat), (12 : Nat), (7 : Nat), (5 : Nat)])))))))))))))))) ∧
 (true = false → 
 (Fun W.C W.P (15 : Nat) [(AV.v (Value.int IntKind.u8 (65 : Int))), (AV.dat (2 : Nat) false (1 : Nat) (fun (i : Nat) => (nthD [(AV.dat (1 : Nat) false (1 : Nat) (fun (i1 : Nat) => (nthD [(AV.v (Value.int IntKind.u8 (120 : Int)))] ((0 : Nat) + i1) (AV.v (Value.tuple (List.toArray [])))))), (AV.dat (0 : Nat) false (1 : Nat) (fun (i1 : Nat) => (AV.v (Value.tuple (List.toArray [])))))] ((0 : Nat) + i) (AV.v (Value.tuple (List.toArray []))))))] [] (AV.arr (32 : Nat) (1 : Nat) (fun (i : Nat) => (AV.v (Value.int IntKind.u8 (((Sp.sumN (Sp.ofBytes (65 : Nat) (partsL (2 : Nat) (fun (i1 : Nat) => (nthD [(AV.dat (1 : Nat) false (1 : Nat) (fun (i2 : Nat) => (nthD [(AV.v (Value.int IntKind.u8 (120 : Int)))] ((0 : Nat) + i2) (AV.v (Value.tuple (List.toArray [])))))), (AV.dat (0 : Nat) false (1 : Nat) (fun (i2 : Nat) => (AV.v (Value.tuple (List.toArray [])))))] ((0 : Nat) + i1) (AV.v (Value.tuple (List.toArray []))))))) i) : Nat) : Int))))) [] ∧
  ((∀ (i : Nat), ((i < (32 : Nat)) → True)) ∧
  (Fun W.C W.P (13 : Nat) [(AV.arr (32 : Nat) (1 : Nat) (fun (i : Nat) => (AV.v (Value.int IntKind.u8 (((Sp.sumN (Sp.ofBytes (65 : Nat) (partsL (2 : Nat) (fun (i1 : Nat) => (nthD [(AV.dat (1 : Nat) false (1 : Nat) (fun (i2 : Nat) => (nthD [(AV.v (Value.int IntKind.u8 (120 : Int)))] ((0 : Nat) + i2) (AV.v (Value.tuple (List.toArray [])))))), (AV.dat (0 : Nat) false (1 : Nat) (fun (i2 : Nat) => (AV.v (Value.tuple (List.toArray [])))))] ((0 : Nat) + i1) (AV.v (Value.tuple (List.toArray []))))))) i) : Nat) : Int)))))] [] (AV.v (Value.string (W.hexB (bytesL (32 : Nat) (fun (i : Nat) => (AV.v (Value.int IntKind.u8 (((Sp.sumN (Sp.ofBytes (65 : Nat) (partsL (2 : Nat) (fun (i1 : Nat) => (nthD [(AV.dat (1 : Nat) false (1 : Nat) (fun (i2 : Nat) => (nthD [(AV.v (Value.int IntKind.u8 (120 : Int)))] ((0 : Nat) + i2) (AV.v (Value.tuple (List.toArray [])))))), (AV.dat (0 : Nat) false (1 : Nat) (fun (i2 : Nat) => (AV.v (Value.tuple (List.toArray [])))))] ((0 : Nat) + i1) (AV.v (Value.tuple (List.toArray []))))))) i) : Nat) : Int)))))))) [] ∧
  (True ∧
  ((true = true → 
  (Fun W.C W.P (15 : Nat) [(AV.v (Value.int IntKind.u8 (65 : Int))), (AV.dat (2 : Nat) false (1 : Nat) (fun (i : Nat) => (nthD [(AV.dat (0 : Nat) false (1 : Nat) (fun (i1 : Nat) => (AV.v (Value.tuple (List.toArray []))))), (AV.dat (1 : Nat) false (1 : Nat) (fun (i1 : Nat) => (nthD [(AV.v (Value.int IntKind.u8 (120 : Int)))] ((0 : Nat) + i1) (AV.v (Value.tuple (List.toArray []))))))] ((0 : Nat) + i) (AV.v (Value.tuple (List.toArray []))))))] [] (AV.arr (32 : Nat) (1 : Nat) (fun (i : Nat) => (AV.v (Value.int IntKind.u8 (((Sp.sumN (Sp.ofBytes (65 : Nat) (partsL (2 : Nat) (fun (i1 : Nat) => (nthD [(AV.dat (0 : Nat) false (1 : Nat) (fun (i2 : Nat) => (AV.v (Value.tuple (List.toArray []))))), (AV.dat (1 : Nat) false (1 : Nat) (fun (i2 : Nat) => (nthD [(AV.v (Value.int IntKind.u8 (120 : Int)))] ((0 : Nat) + i2) (AV.v (Value.tuple (List.toArray []))))))] ((0 : Nat) + i1) (AV.v (Value.tuple (List.toArray []))))))) i) : Nat) : Int))))) [] ∧
   ((∀ (i : Nat), ((i < (32 : Nat)) → True)) ∧
   (Fun W.C W.P (13 : Nat) [(AV.arr (32 : Nat) (1 : Nat) (fun (i : Nat) => (AV.v (Value.int IntKind.u8 (((Sp.sumN (Sp.ofBytes (65 : Nat) (partsL (2 : Nat) (fun (i1 : Nat) => (nthD [(AV.dat (0 : Nat) false (1 : Nat) (fun (i2 : Nat) => (AV.v (Value.tuple (List.toArray []))))), (AV.dat (1 : Nat) false (1 : Nat) (fun (i2 : Nat) => (nthD [(AV.v (Value.int IntKind.u8 (120 : Int)))] ((0 : Nat) + i2) (AV.v (Value.tuple (List.toArray []))))))] ((0 : Nat) + i1) (AV.v (Value.tuple (List.toArray []))))))) i) : Nat) : Int)))))] [] (AV.v (Value.string (W.hexB (bytesL (32 : Nat) (fun (i : Nat) => (AV.v (Value.int IntKind.u8 (((Sp.sumN (Sp.ofBytes (65 : Nat) (partsL (2 : Nat) (fun (i1 : Nat) => (nthD [(AV.dat (0 : Nat) false (1 : Nat) (fun (i2 : Nat) => (AV.v (Value.tuple (List.toArray []))))), (AV.dat (1 : Nat) false (1 : Nat) (fun (i2 : Nat) => (nthD [(AV.v (Value.int IntKind.u8 (120 : Int)))] ((0 : Nat) + i2) (AV.v (Value.tuple (List.toArray []))))))] ((0 : Nat) + i1) (AV.v (Value.tuple (List.toArray []))))))) i) : Nat) : Int)))))))) [] ∧
   (True ∧
   (Φ Ex.ret (St.mk [((0 : Nat), (AV.v (Value.bool false))), ((1 : Nat), (AV.sl (5 : Nat) [] (0 : Nat) (1 : Nat) (1 : Nat) true (1 : Nat))), ((2 : Nat), (AV.sl (7 : Nat) [] (0 : Nat) (0 : Nat) (0 : Nat) true (1 : Nat))), ((3 : Nat), (AV.v (Value.bool false))), ((4 : Nat), (AV.sb true))] [((5 : Nat), (Blk.c (AV.st [(AV.v (Value.int IntKind.u8 (120 : Int)))]))), ((7 : Nat), (Blk.c (AV.st []))), ((20 : Nat), (Blk.c (AV.st [(AV.sl (5 : Nat) [] (0 : Nat) (1 : Nat) (1 : Nat) true (1 : Nat)), (AV.sl (7 : Nat) [] (0 : Nat) (0 : Nat) (0 : Nat) true (1 : Nat))]))), ((27 : Nat), (Blk.c (AV.st [(AV.sl (7 : Nat) [] (0 : Nat) (0 : Nat) (0 : Nat) true (1 : Nat)), (AV.sl (5 : Nat) [] (0 : Nat) (1 : Nat) (1 : Nat) true (1 : Nat))])))] [(27 : Nat), (20 : Nat), (7 : Nat), (5 : Nat)]))))))) ∧
  (true = false → 
  (Φ Ex.ret (St.mk [((0 : Nat), (AV.v (Value.bool false))), ((1 : Nat), (AV.sl (5 : Nat) [] (0 : Nat) (1 : Nat) (1 : Nat) true (1 : Nat))), ((2 : Nat), (AV.sl (7 : Nat) [] (0 : Nat) (0 : Nat) (0 : Nat) true (1 : Nat))), ((3 : Nat), (AV.v (Value.bool false))), ((4 : Nat), (AV.v (Value.bool false)))] [((5 : Nat), (Blk.c (AV.st [(AV.v (Value.int IntKind.u8 (120 : Int)))]))), ((7 : Nat), (Blk.c (AV.st []))), ((20 : Nat), (Blk.c (AV.st [(AV.sl (5 : Nat) [] (0 : Nat) (1 : Nat) (1 : Nat) true (1 : Nat)), (AV.sl (7 : Nat) [] (0 : Nat) (0 : Nat) (0 : Nat) true (1 : Nat))])))] [(20 : Nat), (7 : Nat), (5 : Nat)]))))))))))))))) := by kernel_rfl

theorem print_call {f : Nat → AV} (hb : B8 32 f) : Fun C P F_print [.arr 32 1 f] [] (.v (.string (hexB (bytesL 32 f)))) [] :=
  (print_fun (bytesL 32 f) (bytesL_len _ _) (small_bytesL hb)).sim ⟨sm_arr fun i hi => row_bytesL hb i hi, trivial⟩ trivial
theorem b8_sum (l : List Nat) : B8 32 (fun i => u8 (sumN l i)) := fun i _ => ⟨rfl, sumN_lt l i⟩
theorem stream_call {f : Nat → AV} {id n : Int} (hb : B8 32 f) (hid : I64 id) (hn : n.toNat < 2 ^ 40) : Fun C P F_stream [.arr 32 1 f, .i id, .i n] [] (.sl 0 [] 0 n.toNat n.toNat false 1) [(0, .c (ab n.toNat (streamN (bytesL 32 f) id n.toNat)))] :=
  (stream_fun (bytesL 32 f) id n (bytesL_len _ _) (small_bytesL hb) hid hn).sim ⟨sm_arr fun i hi => row_bytesL hb i hi, sm_same rfl, sm_same rfl, trivial⟩ trivial

theorem small_sumL (l : List Nat) : Small (sumL l) := fun x hx => by
  obtain ⟨i, _, rfl⟩ := List.mem_map.1 hx
  exact sumN_lt l i
theorem small_streamL (key : List Nat) (id : Int) (n : Nat) : Small (streamL key id n) := fun x hx => by
  obtain ⟨i, _, rfl⟩ := List.mem_map.1 hx
  exact getD_small (small_sumL _) _
theorem streamN_lt (key : List Nat) (id : Int) (n i : Nat) : streamN key id n i < 256 := getD_small (small_streamL key id n) i

theorem sanity_fun : Fun C P F_sanity [] [] (.sb true) [] := by
  refine in_sanity (W := w_sanity) rfl 0 (by simp) rfl (fun id h => absurd rfl h) ?_
  have hx : B8 1 (fun i1 => nthD [AV.v (.int .u8 (120 : Int))] (0 + i1) (.v (.tuple (List.toArray [])))) := fun i hi => by
    match i, hi with
    | 0, _ => exact ⟨rfl, by decide⟩
  have h0 : ∀ f, B8 0 f := fun f i hi => absurd hi (Nat.not_lt_zero i)
  have habc : B8 3 (fun i => nthD [AV.v (.int .u8 (97 : Int)), AV.v (.int .u8 (98 : Int)), AV.v (.int .u8 (99 : Int))] (0 + i) (.v (.tuple (List.toArray [])))) := fun i hi => by
    match i, hi with
    | 0, _ => exact ⟨rfl, by decide⟩
    | 1, _ => exact ⟨rfl, by decide⟩
    | 2, _ => exact ⟨rfl, by decide⟩
  have hp1 : Parts 2 (fun i => nthD [AV.dat 1 false 1 (fun i1 => nthD [AV.v (.int .u8 (120 : Int))] (0 + i1) (.v (.tuple (List.toArray [])))), AV.dat 0 false 1 (fun _ => .v (.tuple (List.toArray [])))] (0 + i) (.v (.tuple (List.toArray [])))) := fun i hi => by
    match i, hi with
    | 0, _ => exact ⟨_, _, _, _, rfl, .inr rfl, hx⟩
    | 1, _ => exact ⟨_, _, _, _, rfl, .inl rfl, h0 _⟩
  have hp2 : Parts 2 (fun i => nthD [AV.dat 0 false 1 (fun _ => .v (.tuple (List.toArray []))), AV.dat 1 false 1 (fun i1 => nthD [AV.v (.int .u8 (120 : Int))] (0 + i1) (.v (.tuple (List.toArray []))))] (0 + i) (.v (.tuple (List.toArray [])))) := fun i hi => by
    match i, hi with
    | 0, _ => exact ⟨_, _, _, _, rfl, .inl rfl, h0 _⟩
    | 1, _ => exact ⟨_, _, _, _, rfl, .inr rfl, hx⟩
  have hz : B8 32 (fun _ => AV.v (.int .u8 (0 : Int))) := fun i _ => ⟨rfl, by show 0 < 256; decide⟩
  have htt : ∀ {p q : Prop}, p → ((true = true → p) ∧ (true = false → q)) := fun hp => ⟨fun _ => hp, nofun⟩
  refine of_eq (sanity_A 0 _) ⟨by decide, sum_call (h0 _) (.inl rfl) (by decide), fun _ _ => trivial, print_call (b8_sum _), trivial, htt ?_⟩
  refine ⟨by decide, sum_call habc (.inr rfl) (by decide), fun _ _ => trivial, print_call (b8_sum _), trivial, of_call (by decide) hp1 (.inr rfl) (by decide), fun _ _ => trivial, print_call (b8_sum _), trivial, htt ?_⟩
  refine ⟨of_call (by decide) hp2 (.inr rfl) (by decide), fun _ _ => trivial, print_call (b8_sum _), trivial, htt (htt ?_)⟩
  refine ⟨stream_call hz (by unfold I64; decide) (by decide), fun i hi => ?_, htt ⟨stream_call hz (by unfold I64; decide) (by decide), post_tmp rfl (sm_same rfl)⟩⟩
  have := streamN_lt (bytesL 32 fun _ => AV.v (.int .u8 (0 : Int))) 7 4 (0 + i)
  omega
end Go.Bu.W

