/- The reference's numbers as bytes, bytes of parts, lists of parts that are the same. -/
import Derived.Test.YtfhdnaonihhjjaaDoorK15
import Derived.Test.YtfhdnaonihhjjaaDoorK9
namespace Go.Bu.W
open Sp
def crBytes : List AV → Option (AV × List (Nat × Blk))
  | [x, .dat n _ _ f] => some (ownB (ofBytes (asN x) (partsL n f)))
  | _ => none
def crSame : List AV → Option (AV × List (Nat × Blk))
  | [.dat n _ _ f, .dat m _ _ g] => some (.sb (decide (partsL n f = partsL m g)), [])
  | _ => none
def crRef (g : Nat) (args : List AV) (H : List (Nat × Blk)) : Option (AV × List (Nat × Blk)) :=
  sel (Nat.beq g F_reight) (crEight args) <| sel (Nat.beq g F_bytes) (crBytes args) <| sel (Nat.beq g F_samebytes) (crSame args) <| crLaw g args H
def wayR (keep : List Nat) (nt : Nat) (cuts : List Nat) : Way := ⟨crRef, fun _ => false, keep, [], nt, cuts⟩
def w_reight : Way := wayR [0, 2, 3, 4, 7] 20 []
def w_bytes : Way := wayR [0, 1, 4, 5, 6, 12] 30 []
def w_samebytes : Way := wayR [0, 1, 4, 5, 10, 14, 27] 28 []
def I_re0 (n : Int) (j : Nat) : St := { tm := [(0, .i n), (3, .sl 0 [] 0 j j false 1), (4, .i (7 - (j : Int)))], hp := [(0, .c (ab j (eightN n)))], seen := [0] }
def I_by0 (tag : Nat) (ex : Bool) (exs : Nat → Bool) (ps : List (List Nat)) (i : Nat) : St := { tm := [(1, dp ex exs ps), (5, .sl 5 [] 0 (allN tag ps i).length (allN tag ps i).length false 1), (6, i64 i)], hp := [(5, .c (.arr (allN tag ps i).length 1 (rowL (allN tag ps i))))], seen := [5] }
def I_sb0 (ex ex' : Bool) (exs exs' : Nat → Bool) (ps qs : List (List Nat)) (i : Nat) : St := { tm := [(0, dp ex exs ps), (1, dp ex' exs' qs), (4, .sb false), (5, i64 i)], hp := [], seen := [] }

theorem reight_A (n : Int) (K : Nat) (Φ : Ex → St → Prop) :
  (Holds C P 20 [] K Φ (vc C w_reight b_reight [] (start [.i n] []) lf)) =
  (LoopOK W.C W.P (20 : Nat) [] K (bodyAt b_reight [1, 1, 0, 1, 0]) (St.mk [((0 : Nat), (AV.v (Value.int IntKind.i64 n))), ((2 : Nat), (AV.dat (0 : Nat) true (0 : Nat) (fun (x : Nat) => (AV.v (Value.tuple (List.toArray [])))))), ((3 : Nat), (AV.sl (5 : Nat) [] (0 : Nat) (0 : Nat) (0 : Nat) true (1 : Nat))), ((4 : Nat), (AV.v (Value.int IntKind.i64 (7 : Int))))] [((5 : Nat), (Blk.c (AV.st [])))] [(5 : Nat)]) (fun (e : Ex) (S' : St) => Holds W.C W.P (20 : Nat) [] K Φ (after W.C w_reight b_reight [1, 1, 0, 1, 0] [] lf e S'))) := by kernel_rfl
noncomputable abbrev bd_reight_0 : Code := bodyAt (b_reight) [1, 1, 0, 1, 0]
theorem ok_reight_0 : codeOK bd_reight_0 = true := by kernel_rfl
noncomputable abbrev rest_reight_0 (K : Nat) (Φ : Ex → St → Prop) : Ex → St → Prop := fun e S' => Holds C P 20 [] K Φ (after C w_reight (b_reight) [1, 1, 0, 1, 0] [] lf e S')
theorem reight_L0 (n : Int) (j : Nat) (K : Nat) (Φ : Ex → St → Prop) :
  (Holds C P 20 [] K (RoundQ C 20 [] K (I_re0 n) (fun j => j ≤ 8) (fun j => 8 - j) ((fun j => 8 - j) (j)) (rest_reight_0 K Φ)) (vc C w_reight bd_reight_0 [] ((I_re0 n) (j)) lf)) =
  (((decide (((7 : Int) - ((j : Nat) : Int)) ≥ (0 : Int))) = true → 
 ((I64 ((8 : Int) * ((7 : Int) - ((j : Nat) : Int)))) ∧
  (((0 : Int) ≤ ((8 : Int) * ((7 : Int) - ((j : Nat) : Int)))) ∧
  ((((j + (1 : Nat)) * (1 : Nat)) ≤ (140737488355328 : Nat)) ∧
  ((I64 (((7 : Int) - ((j : Nat) : Int)) - (1 : Int))) ∧
  ((RoundQ C 20 [] K (I_re0 n) (fun j => j ≤ 8) (fun j => 8 - j) ((fun j => 8 - j) (j)) (rest_reight_0 K Φ)) Ex.normal (St.mk [((0 : Nat), (AV.v (Value.int IntKind.i64 n))), ((3 : Nat), (AV.sl (18 : Nat) [] (0 : Nat) (j + (1 : Nat)) (j + (1 : Nat)) false (1 : Nat))), ((4 : Nat), (AV.v (Value.int IntKind.i64 (((7 : Int) - ((j : Nat) : Int)) - (1 : Int))))), ((7 : Nat), (AV.v (Value.bool true)))] [((17 : Nat), (Blk.c (AV.st [(AV.v (Value.int IntKind.u8 (IntKind.wrap IntKind.u8 (bShr IntKind.u64 (IntKind.wrap IntKind.u64 n) ((8 : Int) * ((7 : Int) - ((j : Nat) : Int)))))))]))), ((18 : Nat), (Blk.c (AV.arr (j + (1 : Nat)) (1 : Nat) (cat j (fun (i : Nat) => (AV.v (Value.int IntKind.u8 (((Sp.eightN n ((0 : Nat) + i)) : Nat) : Int)))) (fun (i : Nat) => (nthD [(AV.v (Value.int IntKind.u8 (IntKind.wrap IntKind.u8 (bShr IntKind.u64 (IntKind.wrap IntKind.u64 n) ((8 : Int) * ((7 : Int) - ((j : Nat) : Int)))))))] ((0 : Nat) + i) (AV.v (Value.tuple (List.toArray [])))))))))] [(18 : Nat), (17 : Nat), (0 : Nat)]))))))) ∧
 ((decide (((7 : Int) - ((j : Nat) : Int)) ≥ (0 : Int))) = false → 
 (Φ Ex.ret (St.mk [((0 : Nat), (AV.v (Value.int IntKind.i64 n))), ((2 : Nat), (AV.sl (0 : Nat) [] (0 : Nat) j j false (1 : Nat))), ((3 : Nat), (AV.sl (0 : Nat) [] (0 : Nat) j j false (1 : Nat))), ((4 : Nat), (AV.v (Value.int IntKind.i64 ((7 : Int) - ((j : Nat) : Int))))), ((7 : Nat), (AV.v (Value.bool false)))] [((0 : Nat), (Blk.c (AV.arr j (1 : Nat) (fun (i : Nat) => (AV.v (Value.int IntKind.u8 (((Sp.eightN n i) : Nat) : Int)))))))] [(0 : Nat)])))) := by kernel_rfl
theorem bytes_A (tag : Nat) (ex : Bool) (exs : Nat → Bool) (ps : List (List Nat)) (K : Nat) (Φ : Ex → St → Prop) :
  (Holds C P 30 [] K Φ (vc C w_bytes b_bytes [] (start [u8 tag, dp ex exs ps] []) lf)) =
  (LoopOK W.C W.P (30 : Nat) [] K (bodyAt b_bytes [1, 1, 0, 1, 0]) (St.mk [((0 : Nat), (AV.v (Value.int IntKind.u8 ((tag : Nat) : Int)))), ((1 : Nat), (AV.dat (List.length ps) ex (1 : Nat) (fun (i : Nat) => (AV.dat (List.length (List.getD ps i [])) (exs i) (1 : Nat) (rowL (List.getD ps i [])))))), ((4 : Nat), (AV.dat (0 : Nat) true (0 : Nat) (fun (x : Nat) => (AV.v (Value.tuple (List.toArray [])))))), ((5 : Nat), (AV.sl (8 : Nat) [] (0 : Nat) (1 : Nat) (1 : Nat) true (1 : Nat))), ((6 : Nat), (AV.v (Value.int IntKind.i64 (0 : Int))))] [((8 : Nat), (Blk.c (AV.st [(AV.v (Value.int IntKind.u8 ((tag : Nat) : Int)))])))] [(8 : Nat)]) (fun (e : Ex) (S' : St) => Holds W.C W.P (30 : Nat) [] K Φ (after W.C w_bytes b_bytes [1, 1, 0, 1, 0] [] lf e S'))) := by kernel_rfl
noncomputable abbrev bd_bytes_0 : Code := bodyAt (b_bytes) [1, 1, 0, 1, 0]
theorem ok_bytes_0 : codeOK bd_bytes_0 = true := by kernel_rfl
noncomputable abbrev rest_bytes_0 (K : Nat) (Φ : Ex → St → Prop) : Ex → St → Prop := fun e S' => Holds C P 30 [] K Φ (after C w_bytes (b_bytes) [1, 1, 0, 1, 0] [] lf e S')
theorem bytes_L0 (tag : Nat) (ex : Bool) (exs : Nat → Bool) (ps : List (List Nat)) (i : Nat) (K : Nat) (Φ : Ex → St → Prop) :
  (Holds C P 30 [] K (RoundQ C 30 [] K (I_by0 tag ex exs ps) (fun i => i ≤ ps.length) (fun i => ps.length - i) ((fun i => ps.length - i) (i)) (rest_bytes_0 K Φ)) (vc C w_bytes bd_bytes_0 [] ((I_by0 tag ex exs ps) (i)) lf)) =
  (((decide (((i : Nat) : Int) < (((List.length ps) : Nat) : Int))) = true → 
 ((((0 : Int) ≤ ((i : Nat) : Int)) ∧ (((i : Nat) : Int) < (((List.length ps) : Nat) : Int))) ∧
  (Fun W.C W.P (21 : Nat) [(AV.v (Value.int IntKind.i64 (((List.length (List.getD ps i [])) : Nat) : Int)))] [] (AV.sl (0 : Nat) [] (0 : Nat) (8 : Nat) (8 : Nat) false (1 : Nat)) [((0 : Nat), (Blk.c (AV.arr (8 : Nat) (1 : Nat) (fun (i1 : Nat) => (AV.v (Value.int IntKind.u8 (((Sp.eightN (((List.length (List.getD ps i [])) : Nat) : Int) i1) : Nat) : Int)))))))] ∧
  (((((List.length (W.allN tag ps i)) + (8 : Nat)) * (1 : Nat)) ≤ (140737488355328 : Nat)) ∧
  ((((0 : Int) ≤ ((i : Nat) : Int)) ∧ (((i : Nat) : Int) < (((List.length ps) : Nat) : Int))) ∧
  ((((((List.length (W.allN tag ps i)) + (8 : Nat)) + (List.length (List.getD ps i []))) * (1 : Nat)) ≤ (140737488355328 : Nat)) ∧
  ((I64 (((i + 1) : Nat) : Int)) ∧
  ((RoundQ C 30 [] K (I_by0 tag ex exs ps) (fun i => i ≤ ps.length) (fun i => ps.length - i) ((fun i => ps.length - i) (i)) (rest_bytes_0 K Φ)) Ex.normal (St.mk [((1 : Nat), (AV.dat (List.length ps) ex (1 : Nat) (fun (i1 : Nat) => (AV.dat (List.length (List.getD ps i1 [])) (exs i1) (1 : Nat) (rowL (List.getD ps i1 [])))))), ((5 : Nat), (AV.sl (28 : Nat) [] (0 : Nat) (((List.length (W.allN tag ps i)) + (8 : Nat)) + (List.length (List.getD ps i []))) (((List.length (W.allN tag ps i)) + (8 : Nat)) + (List.length (List.getD ps i []))) false (1 : Nat))), ((6 : Nat), (AV.v (Value.int IntKind.i64 (((i + 1) : Nat) : Int)))), ((12 : Nat), (AV.v (Value.bool true)))] [((21 : Nat), (Blk.c (AV.arr (8 : Nat) (1 : Nat) (fun (i1 : Nat) => (AV.v (Value.int IntKind.u8 (((Sp.eightN (((List.length (List.getD ps i [])) : Nat) : Int) i1) : Nat) : Int))))))), ((28 : Nat), (Blk.c (AV.arr (((List.length (W.allN tag ps i)) + (8 : Nat)) + (List.length (List.getD ps i []))) (1 : Nat) (cat ((List.length (W.allN tag ps i)) + (8 : Nat)) (fun (i1 : Nat) => (cat (List.length (W.allN tag ps i)) (fun (i2 : Nat) => (AV.v (Value.int IntKind.u8 (((List.getD (W.allN tag ps i) ((0 : Nat) + i2) (0 : Nat)) : Nat) : Int)))) (fun (i2 : Nat) => (AV.v (Value.int IntKind.u8 (((Sp.eightN (((List.length (List.getD ps i [])) : Nat) : Int) ((0 : Nat) + i2)) : Nat) : Int)))) ((0 : Nat) + i1))) (rowL (List.getD ps i []))))))] [(28 : Nat), (22 : Nat), (21 : Nat), (5 : Nat)]))))))))) ∧
 ((decide (((i : Nat) : Int) < (((List.length ps) : Nat) : Int))) = false → 
 (Φ Ex.ret (St.mk [((1 : Nat), (AV.dat (List.length ps) ex (1 : Nat) (fun (i1 : Nat) => (AV.dat (List.length (List.getD ps i1 [])) (exs i1) (1 : Nat) (rowL (List.getD ps i1 [])))))), ((4 : Nat), (AV.sl (5 : Nat) [] (0 : Nat) (List.length (W.allN tag ps i)) (List.length (W.allN tag ps i)) false (1 : Nat))), ((5 : Nat), (AV.sl (5 : Nat) [] (0 : Nat) (List.length (W.allN tag ps i)) (List.length (W.allN tag ps i)) false (1 : Nat))), ((6 : Nat), (AV.v (Value.int IntKind.i64 ((i : Nat) : Int)))), ((12 : Nat), (AV.v (Value.bool false)))] [((5 : Nat), (Blk.c (AV.arr (List.length (W.allN tag ps i)) (1 : Nat) (rowL (W.allN tag ps i)))))] [(5 : Nat)])))) := by kernel_rfl
theorem samebytes_A (ex ex' : Bool) (exs exs' : Nat → Bool) (ps qs : List (List Nat)) (K : Nat) (Φ : Ex → St → Prop) :
  (Holds C P 28 [] K Φ (vc C w_samebytes b_samebytes [] (start [dp ex exs ps, dp ex' exs' qs] []) lf)) =
  ((((((List.length ps) : Nat) : Int) != (((List.length qs) : Nat) : Int)) = true → 
 (Φ Ex.ret (St.mk [((0 : Nat), (AV.dat (List.length ps) ex (1 : Nat) (fun (i : Nat) => (AV.dat (List.length (List.getD ps i [])) (exs i) (1 : Nat) (rowL (List.getD ps i [])))))), ((1 : Nat), (AV.dat (List.length qs) ex' (1 : Nat) (fun (i : Nat) => (AV.dat (List.length (List.getD qs i [])) (exs' i) (1 : Nat) (rowL (List.getD qs i [])))))), ((4 : Nat), (AV.v (Value.bool false))), ((10 : Nat), (AV.v (Value.bool true)))] [] []))) ∧
 (((((List.length ps) : Nat) : Int) != (((List.length qs) : Nat) : Int)) = false → 
 (LoopOK W.C W.P (28 : Nat) [] K (bodyAt b_samebytes [1, 1, 0, 1, 0]) (St.mk [((0 : Nat), (AV.dat (List.length ps) ex (1 : Nat) (fun (i : Nat) => (AV.dat (List.length (List.getD ps i [])) (exs i) (1 : Nat) (rowL (List.getD ps i [])))))), ((1 : Nat), (AV.dat (List.length qs) ex' (1 : Nat) (fun (i : Nat) => (AV.dat (List.length (List.getD qs i [])) (exs' i) (1 : Nat) (rowL (List.getD qs i [])))))), ((4 : Nat), (AV.v (Value.bool false))), ((5 : Nat), (AV.v (Value.int IntKind.i64 (0 : Int)))), ((10 : Nat), (AV.v (Value.bool false)))] [] []) (fun (e : Ex) (S' : St) => Holds W.C W.P (28 : Nat) [] K Φ (after W.C w_samebytes b_samebytes [1, 1, 0, 1, 0] [] lf e S'))))) := by kernel_rfl
noncomputable abbrev bd_samebytes_0 : Code := bodyAt (b_samebytes) [1, 1, 0, 1, 0]
theorem ok_samebytes_0 : codeOK bd_samebytes_0 = true := by kernel_rfl
noncomputable abbrev rest_samebytes_0 (K : Nat) (Φ : Ex → St → Prop) : Ex → St → Prop := fun e S' => Holds C P 28 [] K Φ (after C w_samebytes (b_samebytes) [1, 1, 0, 1, 0] [] lf e S')
theorem samebytes_L0 (ex ex' : Bool) (exs exs' : Nat → Bool) (ps qs : List (List Nat)) (i : Nat) (K : Nat) (Φ : Ex → St → Prop) :
  (Holds C P 28 [] K (RoundQ C 28 [] K (I_sb0 ex ex' exs exs' ps qs) (fun i => i ≤ ps.length ∧ ps.length = qs.length ∧ ∀ j, j < i → ps.getD j [] = qs.getD j []) (fun i => ps.length - i) ((fun i => ps.length - i) (i)) (rest_samebytes_0 K Φ)) (vc C w_samebytes bd_samebytes_0 [] ((I_sb0 ex ex' exs exs' ps qs) (i)) lf)) =
  (((decide (((i : Nat) : Int) < (((List.length ps) : Nat) : Int))) = true → 
 ((((0 : Int) ≤ ((i : Nat) : Int)) ∧ (((i : Nat) : Int) < (((List.length ps) : Nat) : Int))) ∧
  ((∀ (i1 : Nat), ((i1 < (List.length (List.getD ps i []))) → (((0 : Int) ≤ (((List.getD (List.getD ps i []) i1 (0 : Nat)) : Nat) : Int)) ∧ ((((List.getD (List.getD ps i []) i1 (0 : Nat)) : Nat) : Int) < (256 : Int))))) ∧
  ((((0 : Int) ≤ ((i : Nat) : Int)) ∧ (((i : Nat) : Int) < (((List.length qs) : Nat) : Int))) ∧
  ((∀ (i1 : Nat), ((i1 < (List.length (List.getD qs i []))) → (((0 : Int) ≤ (((List.getD (List.getD qs i []) i1 (0 : Nat)) : Nat) : Int)) ∧ ((((List.getD (List.getD qs i []) i1 (0 : Nat)) : Nat) : Int) < (256 : Int))))) ∧
  (((!((ByteArray.toList (bytesOf (List.length (List.getD ps i [])) (rowL (List.getD ps i [])))) == (ByteArray.toList (bytesOf (List.length (List.getD qs i [])) (rowL (List.getD qs i [])))))) = true → 
  (Φ Ex.ret (St.mk [((0 : Nat), (AV.dat (List.length ps) ex (1 : Nat) (fun (i1 : Nat) => (AV.dat (List.length (List.getD ps i1 [])) (exs i1) (1 : Nat) (rowL (List.getD ps i1 [])))))), ((1 : Nat), (AV.dat (List.length qs) ex' (1 : Nat) (fun (i1 : Nat) => (AV.dat (List.length (List.getD qs i1 [])) (exs' i1) (1 : Nat) (rowL (List.getD qs i1 [])))))), ((4 : Nat), (AV.v (Value.bool false))), ((5 : Nat), (AV.v (Value.int IntKind.i64 ((i : Nat) : Int)))), ((14 : Nat), (AV.v (Value.bool true))), ((27 : Nat), (AV.v (Value.bool true)))] [] []))) ∧
  ((!((ByteArray.toList (bytesOf (List.length (List.getD ps i [])) (rowL (List.getD ps i [])))) == (ByteArray.toList (bytesOf (List.length (List.getD qs i [])) (rowL (List.getD qs i [])))))) = false → 
  ((I64 (((i + 1) : Nat) : Int)) ∧
   ((RoundQ C 28 [] K (I_sb0 ex ex' exs exs' ps qs) (fun i => i ≤ ps.length ∧ ps.length = qs.length ∧ ∀ j, j < i → ps.getD j [] = qs.getD j []) (fun i => ps.length - i) ((fun i => ps.length - i) (i)) (rest_samebytes_0 K Φ)) Ex.normal (St.mk [((0 : Nat), (AV.dat (List.length ps) ex (1 : Nat) (fun (i1 : Nat) => (AV.dat (List.length (List.getD ps i1 [])) (exs i1) (1 : Nat) (rowL (List.getD ps i1 [])))))), ((1 : Nat), (AV.dat (List.length qs) ex' (1 : Nat) (fun (i1 : Nat) => (AV.dat (List.length (List.getD qs i1 [])) (exs' i1) (1 : Nat) (rowL (List.getD qs i1 [])))))), ((4 : Nat), (AV.sb false)), ((5 : Nat), (AV.v (Value.int IntKind.i64 (((i + 1) : Nat) : Int)))), ((14 : Nat), (AV.v (Value.bool true))), ((27 : Nat), (AV.v (Value.bool false)))] [] [])))))))))) ∧
 ((decide (((i : Nat) : Int) < (((List.length ps) : Nat) : Int))) = false → 
 (Φ Ex.ret (St.mk [((0 : Nat), (AV.dat (List.length ps) ex (1 : Nat) (fun (i1 : Nat) => (AV.dat (List.length (List.getD ps i1 [])) (exs i1) (1 : Nat) (rowL (List.getD ps i1 [])))))), ((1 : Nat), (AV.dat (List.length qs) ex' (1 : Nat) (fun (i1 : Nat) => (AV.dat (List.length (List.getD qs i1 [])) (exs' i1) (1 : Nat) (rowL (List.getD qs i1 [])))))), ((4 : Nat), (AV.v (Value.bool true))), ((5 : Nat), (AV.v (Value.int IntKind.i64 ((i : Nat) : Int)))), ((14 : Nat), (AV.v (Value.bool false)))] [] [])))) := by kernel_rfl

theorem reight_fun (n : Int) (hn : I64 n) : Fun C P F_reight [.i n] [] (.sl 0 [] 0 8 8 false 1) [(0, .c (ab 8 (eightN n)))] := by
  refine in_reight (W := w_reight) rfl 0 (by simp) rfl (fun id h => absurd rfl h) ?_
  refine of_eq (reight_A n 0 _) ?_
  refine loop_inv (W := w_reight) ctx mixed ok_reight_0 (I_re0 n) (fun j => j ≤ 8) (fun j => 8 - j) 0 (by decide) ?_ fun j hj => ?_
  · refine ent_of [(5, 0)] rfl (tm_cons rfl (sm_same rfl) (tm_cons rfl (sm_sl rfl rfl (Nat.le_refl _) (Nat.le_refl _) (by simp)) (tm_cons rfl (sm_same rfl) tm_nil))) (hp_cons rfl rfl (sm_row rfl rfl rfl fun i x hx => ?_) hp_nil)
    cases i with
    | zero => cases hx
    | succ i => cases hx
  refine of_eq (reight_L0 n j 0 _) ⟨fun h => ?_, fun h => ?_⟩
  · simp only [ge_iff_le, decide_eq_true_eq] at h
    have hj8 : j < 8 := by omega
    rw [show (8 : Int) * ((7 : Int) - ((j : Nat) : Int)) = (56 : Int) - ((8 * j : Nat) : Int) by omega, eight_val n hn j hj8]
    refine ⟨(by first | omega | decide | (unfold I64; omega)), (by first | omega | decide | (unfold I64; omega)), (by first | omega | decide | (unfold I64; omega)), (by first | omega | decide | (unfold I64; omega)), round_end (j + 1) (by omega) (ent_of [(18, 0)] rfl (tm_cons rfl (sm_same rfl) (tm_cons rfl (sm_sl rfl rfl (Nat.le_refl _) (Nat.le_refl _) (by simp)) (tm_cons rfl (sm_int (by omega)) tm_nil))) (hp_cons rfl rfl (sm_arr fun i hi => ?_) hp_nil)) (by dsimp only; omega)⟩
    unfold cat
    by_cases e : i < j
    · rw [if_pos e]; simp only [Nat.zero_add]
    · have e2 : i = j := by omega
      subst e2
      rw [if_neg e]
      simp only [Nat.sub_self]
      rfl
  · simp only [ge_iff_le, decide_eq_false_iff_not] at h
    obtain rfl : j = 8 := by omega
    exact funPost_of (S2 := { tm := [(2, .sl 0 [] 0 8 8 false 1)], hp := [(0, .c (ab 8 (eightN n)))], seen := [0] }) (by simp) (ent_of [(0, 0)] rfl (tm_cons rfl (sm_sl rfl rfl (Nat.le_refl _) (Nat.le_refl _) (by simp)) tm_nil) (hp_cons rfl rfl (sm_same rfl) hp_nil)) rfl
      (.inr ⟨rfl, rfl, rfl, rfl, by decide, by decide, by simp, rfl⟩) fun _ _ h => h

theorem bytes_fun (tag : Nat) (ex : Bool) (exs : Nat → Bool) (ps : List (List Nat)) (hn : (ofBytes tag ps).length < 2 ^ 46) :
    Fun C P F_bytes [u8 tag, dp ex exs ps] [] (ownB (ofBytes tag ps)).1 (ownB (ofBytes tag ps)).2 := by
  have hle := allN_le tag ps
  rw [allN_all] at hle
  have hps : ps.length < 2 ^ 46 := by
    have : ∀ qs : List (List Nat), qs.length ≤ (qs.flatMap fun p => eightL p.length ++ p).length := by
      intro qs
      induction qs with
      | nil => simp
      | cons q r ih => simp [eightL] at ih ⊢; omega
    have h1 := this ps
    simp only [ofBytes, List.length_cons] at hn
    omega
  refine in_bytes (W := w_bytes) rfl 0 (by simp) rfl (fun id h => absurd rfl h) ?_
  refine of_eq (bytes_A tag ex exs ps 0 _) ?_
  refine loop_inv (W := w_bytes) ctx mixed ok_bytes_0 (I_by0 tag ex exs ps) (fun i => i ≤ ps.length) (fun i => ps.length - i) 0 (Nat.zero_le _) ?_ fun i hi => ?_
  · refine ent_of [(8, 5)] rfl (tm_cons rfl (sm_same rfl) (tm_cons rfl (sm_sl rfl rfl (Nat.le_refl _) (Nat.le_refl _) (by simp)) (tm_cons rfl (sm_same rfl) tm_nil))) (hp_cons rfl rfl (sm_row rfl rfl rfl fun i x hx => ?_) hp_nil)
    cases i with
    | zero => cases hx; rfl
    | succ i => cases i <;> cases hx
  refine of_eq (bytes_L0 tag ex exs ps i 0 _) ⟨fun h => ?_, fun h => ?_⟩
  · simp only [decide_eq_true_eq] at h
    have hi' : i < ps.length := by omega
    have h1 := hle (i + 1) (by omega)
    have hs := allN_succ tag ps i hi'
    rw [hs] at h1
    simp only [List.length_append, eightL, List.length_map, List.length_range] at h1
    refine ⟨(by first | omega | decide | (unfold I64; omega)), reight_fun _ (by first | omega | decide | (unfold I64; omega)), (by first | omega | decide | (unfold I64; omega)), (by first | omega | decide | (unfold I64; omega)), (by first | omega | decide | (unfold I64; omega)), (by first | omega | decide | (unfold I64; omega)), round_end (i + 1) (by omega) (ent_of [(28, 5)] rfl (tm_cons rfl (sm_same rfl) (tm_cons rfl (sm_sl rfl ?_ ?_ ?_ (by simp)) (tm_cons rfl (sm_same rfl) tm_nil))) (hp_cons rfl rfl (sm_arr' ?_ fun j hj => ?_) hp_nil)) (by dsimp only; omega)⟩
    · rw [hs]; simp [eightL]; omega
    · rw [hs]; simp [eightL]; omega
    · rw [hs]; simp [eightL]; omega
    · rw [hs]; simp [eightL]; omega
    · show _ = rowL (allN tag ps (i + 1)) j
      rw [hs, ← List.append_assoc]
      refine cat_rows (by simp [eightL]) (fun k hk => ?_) rfl (fun k hk => rfl) j hj
      rw [Nat.zero_add]
      refine cat_rows rfl (fun q _ => by rw [Nat.zero_add]) (by simp [eightL]) (fun q hq => ?_) k hk
      rw [Nat.zero_add]
      simp [eightL, List.getD_eq_getElem?_getD, hq]
  simp only [decide_eq_false_iff_not] at h
  obtain rfl : i = ps.length := by omega
  rw [allN_all]
  exact funPost_of (S2 := { tm := [(4, (ownB (ofBytes tag ps)).1)], hp := (ownB (ofBytes tag ps)).2, seen := [0] }) (by simp) (ent_of [(5, 0)] rfl (tm_cons rfl (sm_sl rfl rfl (Nat.le_refl _) (Nat.le_refl _) (by simp)) tm_nil) (hp_cons rfl rfl (sm_same rfl) hp_nil)) rfl
      (.inr ⟨rfl, rfl, rfl, rfl, Nat.le_refl _, Nat.le_refl _, by simp, rfl⟩) fun _ _ h => h

theorem getD_mem {ps : List (List Nat)} (hp : ∀ p ∈ ps, Small p) (i : Nat) : Small (ps.getD i []) := by
  rw [List.getD_eq_getElem?_getD]
  cases h : ps[i]? with
  | none => exact small_nil
  | some x => exact hp x (List.mem_of_getElem? h)
theorem small_get {l : List Nat} (h : Small l) : ∀ i, i < l.length → (0 : Int) ≤ ((l.getD i 0 : Nat) : Int) ∧ ((l.getD i 0 : Nat) : Int) < 256 := fun i _ => by
  have := getD_small h i
  omega

theorem samebytes_fun (ex ex' : Bool) (exs exs' : Nat → Bool) (ps qs : List (List Nat)) (hp : ∀ p ∈ ps, Small p) (hq : ∀ p ∈ qs, Small p) (h1 : ps.length < 2 ^ 62) :
    Fun C P F_samebytes [dp ex exs ps, dp ex' exs' qs] [] (.sb (decide (ps = qs))) [] := by
  refine in_samebytes (W := w_samebytes) rfl 0 (by simp) rfl (fun id h => absurd rfl h) ?_
  refine of_eq (samebytes_A ex ex' exs exs' ps qs 0 _) ⟨fun h => post_tmp rfl (sm_b ?_), fun h => ?_⟩
  · rw [decide_eq_false]
    intro e
    rw [e] at h
    simp at h
  have hl : ps.length = qs.length := by
    simp only [bne_eq_false_iff_eq] at h
    omega
  refine loop_inv (W := w_samebytes) ctx mixed ok_samebytes_0 (I_sb0 ex ex' exs exs' ps qs) (fun i => i ≤ ps.length ∧ ps.length = qs.length ∧ ∀ j, j < i → ps.getD j [] = qs.getD j []) (fun i => ps.length - i) 0 ⟨Nat.zero_le _, hl, fun j hj => absurd hj (Nat.not_lt_zero j)⟩ ?_ fun i hi => ?_
  · exact ent_of [] rfl (tm_cons rfl (sm_same rfl) (tm_cons rfl (sm_same rfl) (tm_cons rfl (sm_b rfl) (tm_cons rfl (sm_same rfl) tm_nil)))) hp_nil
  obtain ⟨hi, -, hall⟩ := hi
  refine of_eq (samebytes_L0 ex ex' exs exs' ps qs i 0 _) ⟨fun h => ?_, fun h => ?_⟩
  · simp only [decide_eq_true_eq] at h
    rw [str_row (getD_mem hp i) (getD_mem hq i)]
    refine ⟨(by first | omega | decide | (unfold I64; omega)), small_get (getD_mem hp i), (by first | omega | decide | (unfold I64; omega)), small_get (getD_mem hq i), fun h2 => post_tmp rfl (sm_b ?_), fun h2 => ?_⟩
    · rw [decide_eq_false]
      intro e
      rw [e] at h2
      simp at h2
    · simp only [Bool.not_eq_false', decide_eq_true_eq] at h2
      refine ⟨(by first | omega | decide | (unfold I64; omega)), round_end (i + 1) ⟨by omega, hl, fun j hj => ?_⟩ (ent_of [] rfl (tm_cons rfl (sm_same rfl) (tm_cons rfl (sm_same rfl) (tm_cons rfl (sm_same rfl) (tm_cons rfl (sm_same rfl) tm_nil)))) hp_nil) (by dsimp only; omega)⟩
      by_cases e : j = i
      · subst e; exact h2
      · exact hall j (by omega)
  simp only [decide_eq_false_iff_not] at h
  refine post_tmp rfl (sm_b ?_)
  rw [decide_eq_true]
  apply List.ext_getElem hl
  intro j h3 h4
  have := hall j (by omega)
  rwa [List.getD_eq_getElem?_getD, List.getD_eq_getElem?_getD, List.getElem?_eq_getElem h3, List.getElem?_eq_getElem h4] at this
theorem parts_blk {key : List Nat} {id i : Int} (hs : Small key) : Parts 3 (fun i1 => nthD [AV.dat 32 false 1 (fun i2 => u8 (key.getD (0 + i2) 0)), AV.dat 8 false 1 (fun i2 => u8 (eightN id (0 + i2))), AV.dat 8 false 1 (fun i2 => u8 (eightN i (0 + i2)))] (0 + i1) (.v (.tuple (List.toArray [])))) := by
  intro j hj
  match j, hj with
  | 0, _ => exact ⟨_, _, _, _, rfl, .inr rfl, fun j _ => ⟨rfl, getD_small hs _⟩⟩
  | 1, _ => exact ⟨_, _, _, _, rfl, .inr rfl, fun j _ => ⟨rfl, eightN_lt _ _⟩⟩
  | 2, _ => exact ⟨_, _, _, _, rfl, .inr rfl, fun j _ => ⟨rfl, eightN_lt _ _⟩⟩
theorem partsL_blk {key : List Nat} {id i : Int} (hk : key.length = 32) : partsL 3 (fun i1 => nthD [AV.dat 32 false 1 (fun i2 => u8 (key.getD (0 + i2) 0)), AV.dat 8 false 1 (fun i2 => u8 (eightN id (0 + i2))), AV.dat 8 false 1 (fun i2 => u8 (eightN i (0 + i2)))] (0 + i1) (.v (.tuple (List.toArray [])))) = [key, eightL id, eightL i] := by
  refine parts3 (fun j hj => nthD3 _ _ _ _ j hj) ?_ ?_ ?_
  · exact bytesL_of hk.symm fun j _ => by rw [Nat.zero_add]
  · exact eightL_of fun j _ => by rw [Nat.zero_add]
  · exact eightL_of fun j _ => by rw [Nat.zero_add]
theorem b8_stream (key : List Nat) (id : Int) (n k o : Nat) : B8 k (fun i => u8 (streamN key id n (o + i))) := fun i _ => ⟨rfl, streamN_lt _ _ _ _⟩

end Go.Bu.W

