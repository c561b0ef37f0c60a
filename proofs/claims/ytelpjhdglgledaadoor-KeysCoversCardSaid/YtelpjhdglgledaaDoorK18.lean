/- slices.Reverse, Grow, Concat of elements; new keys. -/
import Derived.Test.YtelpjhdglgledaaDoorK17
namespace Go.Bu.W
open Sp
abbrev rowK (l : List Cv) : Nat → AV := fun i => cvA (cAt l i)
abbrev ownK (l : List Cv) : AV × List (Nat × Blk) := (.sl 0 [] 0 l.length l.length false 34, [(0, .c (.arr l.length 34 (rowK l)))])
abbrev slK (i : Nat) (l : List Cv) : AV := .sl i [] 0 l.length l.length false 34
abbrev arK (l : List Cv) : AV := .arr l.length 34 (rowK l)
def rowCs (n : Nat) (f : Nat → AV) : List Cv := (List.range n).map fun i => toCv (f i)
theorem rowCs_K (l : List Cv) : rowCs l.length (rowK l) = l := toCs_A false l
def lists (n : Nat) (f : Nat → AV) : List (List Cv) := (List.range n).map fun i => toCs (f i)
abbrev zCv : AV := .st [.i 0, .i 0, .arr 32 1 (fun _ => .v (.int .u8 0))]
abbrev zK (n : Nat) : AV := .arr n 34 (fun _ => cvA c0)
def crGrow : List AV → Option (AV × List (Nat × Blk))
  | [_, n] => some (.sl 0 [] 0 0 (asI n).toNat false 34, [(0, .c (zK (asI n).toNat))])
  | _ => none
def crConcat : List AV → Option (AV × List (Nat × Blk))
  | [.dat n _ _ f] => some (ownK (lists n f).flatten)
  | _ => none
def newL (k : Nat → Nat) : List Cv := [⟨0, 0, k⟩]
theorem newL_KV (k : Nat → Nat) : newL k = KV k [] := (KV_nil k).symm
def crNew : List AV → Option (AV × List (Nat × Blk))
  | [.arr _ _ f] => some (ksA false (newL (dN f)), [])
  | _ => none
def crRev : List AV → List (Nat × Blk) → Option (AV × List (Nat × Blk))
  | _, [(0, .c (.arr n _ f))] => some (.tup [], [(0, .c (.arr n 34 (rowK (rowCs n f).reverse)))])
  | _, _ => none
def crS4 (g : Nat) (args : List AV) (H : List (Nat × Blk)) : Option (AV × List (Nat × Blk)) :=
  sel (Nat.beq g F_grow) (crGrow args) <| sel (Nat.beq g F_concat) (crConcat args) <| sel (Nat.beq g F_new) (crNew args) <| sel (Nat.beq g F_rnew) (crNew args) <| sel (Nat.beq g F_rev) (crRev args H) <| crS3 g args H
def wayG (keep : List Nat) (nt : Nat) (cuts : List Nat) : Way := ⟨crS4, fun _ => false, keep, [33], nt, cuts, []⟩
def wayH (keep : List Nat) (nt : Nat) (cuts : List Nat) : Way := ⟨crS4, fun _ => false, keep, [], nt, cuts, []⟩
def w_grow : Way := wayG [0, 1, 4, 6, 16] 27 []
def w_concat : Way := wayG [0, 2, 3, 5, 6, 8, 9, 10, 11, 12, 20, 25, 26, 27, 28] 36 []
def w_new : Way := wayH [0, 1, 2] 7 []
def w_rnew : Way := wayH [0, 1, 2] 7 []
def w_rev : Way := wayH [0, 2, 3, 9] 28 []
abbrev dK (ex : Bool) (exs : Nat → Bool) (ps : List (List Cv)) : AV := .dat ps.length ex 1 (fun i => kA (exs i) (ps.getD i []))
def I_cc0 (ex : Bool) (exs : Nat → Bool) (ps : List (List Cv)) (i : Nat) : St := { tm := [(0, dK ex exs ps), (3, i64 (ps.take i).flatten.length), (9, dK ex exs ps), (10, i64 ps.length), (11, i64 i)], hp := [], seen := [] }
def fillK (ps : List (List Cv)) (i j : Nat) : AV := cvA (cAt (ps.take i).flatten j)
def I_cc1 (ex : Bool) (exs : Nat → Bool) (ps : List (List Cv)) (i : Nat) : St := { tm := [(6, .sl 6 [] 0 (ps.take i).flatten.length ps.flatten.length false 34), (25, dK ex exs ps), (26, i64 ps.length), (27, i64 i)], hp := [(6, .c (.arr ps.flatten.length 34 (fillK ps i)))], seen := [6] }
def revC (l : List Cv) (i k : Nat) : Cv := cAt l (if k < i ∨ l.length - i ≤ k then l.length - 1 - k else k)
def I_rv (l : List Cv) (i : Nat) : St := { tm := [(0, .sl 0 [] 0 l.length l.length false 34), (2, i64 i), (3, .i ((l.length : Int) - 1 - i))], hp := [(0, .c (.arr l.length 34 (fun k => cvA (revC l i k))))], seen := [0] }

theorem grow_A (n : Nat) {D : Dom} (K : Nat) (Φ : Ex → St → Prop) :
  (Holds C P 27 D K Φ (vc C w_grow b_grow [] (start [.dat 0 true 0 (fun _ => .v (.tuple #[])), i64 n] []) lf)) =
  (((decide (((n : Nat) : Int) < (0 : Int))) = true →
 (Holds W.C W.P 27 D K Φ (VC.fail 5))) ∧
 ((decide (((n : Nat) : Int) < (0 : Int))) = false →
 ((I64 (0 : Int)) ∧
  ((I64 (((n : Nat) : Int) - (0 : Int))) ∧
  (((decide ((((n : Nat) : Int) - (0 : Int)) > (0 : Int))) = true →
  (((0 = 0) ∧ ((true = true) ∧ (((0 : Int) ≤ (0 : Int)) ∧ (((0 : Int) ≤ (0 : Int)) ∧ ((0 : Int) ≤ (0 : Int)))))) ∧
   ((((0 : Int) ≤ (((n : Nat) : Int) - (0 : Int))) ∧ (((Int.toNat (((n : Nat) : Int) - (0 : Int))) * 48) ≤ 140737488355328)) ∧
   ((((Int.toNat (((n : Nat) : Int) - (0 : Int))) * 48) ≤ 140737488355328) ∧
   ((((0 : Int) ≤ (0 : Int)) ∧ (((0 : Int) ≤ (0 : Int)) ∧ ((0 : Int) ≤ (((Int.toNat (((n : Nat) : Int) - (0 : Int))) : Nat) : Int)))) ∧
   (Φ Ex.ret (St.mk [(0, (AV.sl 22 [] 0 0 (Int.toNat (((n : Nat) : Int) - (0 : Int))) false 34)), (1, (AV.i (((n : Nat) : Int) - (0 : Int)))), (4, (AV.sl 22 [] 0 0 (Int.toNat (((n : Nat) : Int) - (0 : Int))) false 34)), (6, (AV.v (Value.bool false))), (16, (AV.v (Value.bool true)))] [(22, (Blk.c (AV.arr (Int.toNat (((n : Nat) : Int) - (0 : Int))) 34 (fun (x : Nat) => (AV.st [(AV.i (0 : Int)), (AV.i (0 : Int)), (AV.arr 32 1 (fun (x1 : Nat) => (AV.v (Value.int IntKind.u8 (0 : Int)))))])))))] [22]))))))) ∧
  ((decide ((((n : Nat) : Int) - (0 : Int)) > (0 : Int))) = false →
  (Φ Ex.ret (St.mk [(0, (AV.dat 0 true 0 (fun (x : Nat) => (AV.v (Value.tuple (List.toArray [])))))), (1, (AV.i (((n : Nat) : Int) - (0 : Int)))), (4, (AV.dat 0 true 0 (fun (x : Nat) => (AV.v (Value.tuple (List.toArray [])))))), (6, (AV.v (Value.bool false))), (16, (AV.v (Value.bool false)))] [] [])))))))) := by kernel_rfl
theorem concat_A (ex : Bool) (exs : Nat → Bool) (ps : List (List Cv)) {D : Dom} (K : Nat) (Φ : Ex → St → Prop) :
  (Holds C P 36 D K Φ (vc C w_concat b_concat [] (start [dK ex exs ps] []) lf)) =
  (LoopOK W.C W.P 36 D K (bodyAt b_concat [1, 1, 0, 1, 0]) (St.mk [(0, (AV.dat (List.length ps) ex 1 (fun (i : Nat) => (W.kA (exs i) (List.getD ps i ([] : List Cv)))))), (2, (AV.dat 0 true 0 (fun (x : Nat) => (AV.v (Value.tuple (List.toArray [])))))), (3, (AV.i (0 : Int))), (9, (AV.dat (List.length ps) ex 1 (fun (i : Nat) => (W.kA (exs i) (List.getD ps i ([] : List Cv)))))), (10, (AV.i (((List.length ps) : Nat) : Int))), (11, (AV.i (0 : Int)))] [] []) (fun (e : Ex) (S' : St) => Holds W.C W.P 36 D K Φ (after W.C w_concat b_concat [1, 1, 0, 1, 0] [] lf e S'))) := by kernel_rfl
noncomputable abbrev bd_concat_0 : Code := bodyAt (b_concat) [1, 1, 0, 1, 0]
theorem ok_concat_0 : codeOK bd_concat_0 = true := by kernel_rfl
noncomputable abbrev rest_concat_0 (D : Dom) (K : Nat) (Φ : Ex → St → Prop) : Ex → St → Prop := fun e S' => Holds C P 36 D K Φ (after C w_concat (b_concat) [1, 1, 0, 1, 0] [] lf e S')
theorem concat_L0 (ex : Bool) (exs : Nat → Bool) (ps : List (List Cv)) (i : Nat) {D : Dom} (K : Nat) (Φ : Ex → St → Prop) :
  (Holds C P 36 D K (RoundQ C 36 D K (I_cc0 ex exs ps) (fun i => i ≤ ps.length) (fun i => ps.length - i) ((fun i => ps.length - i) (i)) (rest_concat_0 D K Φ)) (vc C w_concat bd_concat_0 [] ((I_cc0 ex exs ps) (i)) lf)) =
  (((decide (((i : Nat) : Int) < (((List.length ps) : Nat) : Int))) = true →
 ((((0 : Int) ≤ ((i : Nat) : Int)) ∧ (((i : Nat) : Int) < (((List.length ps) : Nat) : Int))) ∧
  ((I64 ((((List.length (List.flatten (List.take i ps))) + (List.length (List.getD ps i ([] : List Cv)))) : Nat) : Int)) ∧
  (((decide (((((List.length (List.flatten (List.take i ps))) + (List.length (List.getD ps i ([] : List Cv)))) : Nat) : Int) < (0 : Int))) = true →
  (Holds W.C W.P 36 D K (RoundQ W.C 36 D K (W.I_cc0 ex exs ps) (fun (i1 : Nat) => (i1 ≤ (List.length ps))) (fun (i1 : Nat) => ((List.length ps) - i1)) ((List.length ps) - i) (W.rest_concat_0 D K Φ)) (VC.fail 5))) ∧
  ((decide (((((List.length (List.flatten (List.take i ps))) + (List.length (List.getD ps i ([] : List Cv)))) : Nat) : Int) < (0 : Int))) = false →
  ((I64 (((i + 1) : Nat) : Int)) ∧
   ((RoundQ C 36 D K (I_cc0 ex exs ps) (fun i => i ≤ ps.length) (fun i => ps.length - i) ((fun i => ps.length - i) (i)) (rest_concat_0 D K Φ)) Ex.normal (St.mk [(0, (AV.dat (List.length ps) ex 1 (fun (i1 : Nat) => (W.kA (exs i1) (List.getD ps i1 ([] : List Cv)))))), (3, (AV.i ((((List.length (List.flatten (List.take i ps))) + (List.length (List.getD ps i ([] : List Cv)))) : Nat) : Int))), (5, (W.kA (exs i) (List.getD ps i ([] : List Cv)))), (9, (AV.dat (List.length ps) ex 1 (fun (i1 : Nat) => (W.kA (exs i1) (List.getD ps i1 ([] : List Cv)))))), (10, (AV.i (((List.length ps) : Nat) : Int))), (11, (AV.i (((i + 1) : Nat) : Int))), (12, (AV.v (Value.bool true))), (20, (AV.v (Value.bool false)))] [] [])))))))) ∧
 ((decide (((i : Nat) : Int) < (((List.length ps) : Nat) : Int))) = false →
 (Fun W.C W.P 55 [(AV.dat 0 true 0 (fun (x : Nat) => (AV.v (Value.tuple (List.toArray []))))), (AV.i (((List.length (List.flatten (List.take i ps))) : Nat) : Int))] [] (AV.sl 0 [] 0 0 (Int.toNat (((List.length (List.flatten (List.take i ps))) : Nat) : Int)) false 34) [(0, (Blk.c (AV.arr (Int.toNat (((List.length (List.flatten (List.take i ps))) : Nat) : Int)) 34 (fun (x : Nat) => (AV.st [(AV.i (0 : Int)), (AV.i (0 : Int)), (W.kyA (W.Cv.k W.c0))])))))] ∧
  (LoopOK W.C W.P 36 D K (bodyAt b_concat [1, 1, 1, 1, 0, 1, 0]) (St.mk [(0, (AV.dat (List.length ps) ex 1 (fun (i1 : Nat) => (W.kA (exs i1) (List.getD ps i1 ([] : List Cv)))))), (3, (AV.i (((List.length (List.flatten (List.take i ps))) : Nat) : Int))), (6, (AV.sl 24 [] 0 0 (Int.toNat (((List.length (List.flatten (List.take i ps))) : Nat) : Int)) false 34)), (9, (AV.dat (List.length ps) ex 1 (fun (i1 : Nat) => (W.kA (exs i1) (List.getD ps i1 ([] : List Cv)))))), (10, (AV.i (((List.length ps) : Nat) : Int))), (11, (AV.i ((i : Nat) : Int))), (12, (AV.v (Value.bool false))), (25, (AV.dat (List.length ps) ex 1 (fun (i1 : Nat) => (W.kA (exs i1) (List.getD ps i1 ([] : List Cv)))))), (26, (AV.i (((List.length ps) : Nat) : Int))), (27, (AV.i (0 : Int)))] [(24, (Blk.c (AV.arr (Int.toNat (((List.length (List.flatten (List.take i ps))) : Nat) : Int)) 34 (fun (x : Nat) => (AV.st [(AV.i (0 : Int)), (AV.i (0 : Int)), (W.kyA (W.Cv.k W.c0))])))))] [24]) (fun (e : Ex) (S' : St) => Holds W.C W.P 36 D K Φ (after W.C w_concat b_concat [1, 1, 1, 1, 0, 1, 0] [] lf e S')))))) := by kernel_rfl
noncomputable abbrev bd_concat_1 : Code := bodyAt (b_concat) [1, 1, 1, 1, 0, 1, 0]
theorem ok_concat_1 : codeOK bd_concat_1 = true := by kernel_rfl
noncomputable abbrev rest_concat_1 (D : Dom) (K : Nat) (Φ : Ex → St → Prop) : Ex → St → Prop := fun e S' => Holds C P 36 D K Φ (after C w_concat (b_concat) [1, 1, 1, 1, 0, 1, 0] [] lf e S')
theorem concat_L1 (ex : Bool) (exs : Nat → Bool) (ps : List (List Cv)) (i : Nat) {D : Dom} (K : Nat) (Φ : Ex → St → Prop) :
  (Holds C P 36 D K (RoundQ C 36 D K (I_cc1 ex exs ps) (fun i => i ≤ ps.length) (fun i => ps.length - i) ((fun i => ps.length - i) (i)) (rest_concat_1 D K Φ)) (vc C w_concat bd_concat_1 [] ((I_cc1 ex exs ps) (i)) lf)) =
  (((decide (((i : Nat) : Int) < (((List.length ps) : Nat) : Int))) = true →
 ((((0 : Int) ≤ ((i : Nat) : Int)) ∧ (((i : Nat) : Int) < (((List.length ps) : Nat) : Int))) ∧
  ((((List.length (List.flatten (List.take i ps))) + (List.length (List.getD ps i ([] : List Cv)))) ≤ (List.length (List.flatten ps))) ∧
  ((∀ (i1 : Nat), ((i1 < (List.length (List.getD ps i ([] : List Cv)))) → (W.ShC))) ∧
  ((I64 (((i + 1) : Nat) : Int)) ∧
  ((RoundQ C 36 D K (I_cc1 ex exs ps) (fun i => i ≤ ps.length) (fun i => ps.length - i) ((fun i => ps.length - i) (i)) (rest_concat_1 D K Φ)) Ex.normal (St.mk [(6, (AV.sl 6 [] 0 ((List.length (List.flatten (List.take i ps))) + (List.length (List.getD ps i ([] : List Cv)))) (List.length (List.flatten ps)) false 34)), (8, (W.kA (exs i) (List.getD ps i ([] : List Cv)))), (25, (AV.dat (List.length ps) ex 1 (fun (i1 : Nat) => (W.kA (exs i1) (List.getD ps i1 ([] : List Cv)))))), (26, (AV.i (((List.length ps) : Nat) : Int))), (27, (AV.i (((i + 1) : Nat) : Int))), (28, (AV.v (Value.bool true)))] [(6, (Blk.c (AV.arr (List.length (List.flatten ps)) 34 (lay (0 + (List.length (List.flatten (List.take i ps)))) (List.length (List.getD ps i ([] : List Cv))) (W.fillK ps i) (fun (i1 : Nat) => (W.cvA (W.cAt (List.getD ps i ([] : List Cv)) i1)))))))] [6]))))))) ∧
 ((decide (((i : Nat) : Int) < (((List.length ps) : Nat) : Int))) = false →
 (Φ Ex.ret (St.mk [(2, (AV.sl 6 [] 0 (List.length (List.flatten (List.take i ps))) (List.length (List.flatten ps)) false 34)), (6, (AV.sl 6 [] 0 (List.length (List.flatten (List.take i ps))) (List.length (List.flatten ps)) false 34)), (25, (AV.dat (List.length ps) ex 1 (fun (i1 : Nat) => (W.kA (exs i1) (List.getD ps i1 ([] : List Cv)))))), (26, (AV.i (((List.length ps) : Nat) : Int))), (27, (AV.i ((i : Nat) : Int))), (28, (AV.v (Value.bool false)))] [(6, (Blk.c (AV.arr (List.length (List.flatten ps)) 34 (W.fillK ps i))))] [6])))) := by kernel_rfl
theorem new_A (k : Nat → Nat) {D : Dom} (K : Nat) (Φ : Ex → St → Prop) :
  (Holds C P 7 D K Φ (vc C w_new b_new [] (start [kyA k] []) lf)) =
  ((((true = true) ∧ (true = true)) ∧ True) ∧
 (Φ Ex.ret (St.mk [(0, (AV.arr 32 1 (fun (i : Nat) => (AV.v (Value.int IntKind.u8 (((k i) : Nat) : Int)))))), (1, (AV.ptr 1 [])), (2, (AV.ptr 2 []))] [(1, (Blk.c (AV.arr 32 1 (fun (i : Nat) => (AV.v (Value.int IntKind.u8 (((k i) : Nat) : Int))))))), (2, (Blk.c (AV.st [(AV.sl 5 [] 0 1 1 true 34)]))), (5, (Blk.c (AV.st [(AV.st [(AV.i (0 : Int)), (AV.i (0 : Int)), (AV.arr 32 1 (fun (i : Nat) => (AV.v (Value.int IntKind.u8 (((k i) : Nat) : Int)))))])])))] [5, 2, 1]))) := by kernel_rfl
theorem rnew_A (k : Nat → Nat) {D : Dom} (K : Nat) (Φ : Ex → St → Prop) :
  (Holds C P 7 D K Φ (vc C w_rnew b_rnew [] (start [kyA k] []) lf)) =
  ((((true = true) ∧ (true = true)) ∧ True) ∧
 (Φ Ex.ret (St.mk [(0, (AV.arr 32 1 (fun (i : Nat) => (AV.v (Value.int IntKind.u8 (((k i) : Nat) : Int)))))), (1, (AV.ptr 1 [])), (2, (AV.ptr 2 []))] [(1, (Blk.c (AV.arr 32 1 (fun (i : Nat) => (AV.v (Value.int IntKind.u8 (((k i) : Nat) : Int))))))), (2, (Blk.c (AV.st [(AV.sl 5 [] 0 1 1 true 34)]))), (5, (Blk.c (AV.st [(AV.st [(AV.i (0 : Int)), (AV.i (0 : Int)), (AV.arr 32 1 (fun (i : Nat) => (AV.v (Value.int IntKind.u8 (((k i) : Nat) : Int)))))])])))] [5, 2, 1]))) := by kernel_rfl
theorem rev_A (l : List Cv) {D : Dom} (K : Nat) (Φ : Ex → St → Prop) :
  (Holds C P 28 D K Φ (vc C w_rev b_rev [] (start [.sl 0 [] 0 l.length l.length false 34] [(0, .c (.arr l.length 34 (rowK l)))]) lf)) =
  ((I64 ((((List.length l) : Nat) : Int) - (1 : Int))) ∧
 (LoopOK W.C W.P 28 D K (bodyAt b_rev [1, 0]) (St.mk [(0, (W.slK 0 l)), (2, (AV.i (0 : Int))), (3, (AV.i ((((List.length l) : Nat) : Int) - (1 : Int))))] [(0, (Blk.c (W.arK l)))] [0]) (fun (e : Ex) (S' : St) => Holds W.C W.P 28 D K Φ (after W.C w_rev b_rev [1, 0] [] lf e S')))) := by kernel_rfl
noncomputable abbrev bd_rev_0 : Code := bodyAt (b_rev) [1, 0]
theorem ok_rev_0 : codeOK bd_rev_0 = true := by kernel_rfl
noncomputable abbrev rest_rev_0 (D : Dom) (K : Nat) (Φ : Ex → St → Prop) : Ex → St → Prop := fun e S' => Holds C P 28 D K Φ (after C w_rev (b_rev) [1, 0] [] lf e S')
theorem rev_L0 (l : List Cv) (i : Nat) {D : Dom} (K : Nat) (Φ : Ex → St → Prop) :
  (Holds C P 28 D K (RoundQ C 28 D K (I_rv l) (fun i => 2 * i ≤ l.length + 1) (fun i => l.length + 1 - 2 * i) ((fun i => l.length + 1 - 2 * i) (i)) (rest_rev_0 D K Φ)) (vc C w_rev bd_rev_0 [] ((I_rv l) (i)) lf)) =
  (((decide (((i : Nat) : Int) < (((((List.length l) : Nat) : Int) - (1 : Int)) - ((i : Nat) : Int)))) = true →
 ((((0 : Int) ≤ (((((List.length l) : Nat) : Int) - (1 : Int)) - ((i : Nat) : Int))) ∧ ((((((List.length l) : Nat) : Int) - (1 : Int)) - ((i : Nat) : Int)) < (((List.length l) : Nat) : Int))) ∧
  ((((0 : Int) ≤ ((i : Nat) : Int)) ∧ (((i : Nat) : Int) < (((List.length l) : Nat) : Int))) ∧
  ((((0 : Int) ≤ ((i : Nat) : Int)) ∧ (((i : Nat) : Int) < (((List.length l) : Nat) : Int))) ∧
  ((W.ShC) ∧
  ((((0 : Int) ≤ (((((List.length l) : Nat) : Int) - (1 : Int)) - ((i : Nat) : Int))) ∧ ((((((List.length l) : Nat) : Int) - (1 : Int)) - ((i : Nat) : Int)) < (((List.length l) : Nat) : Int))) ∧
  ((shp (if ((0 + (Int.toNat (((((List.length l) : Nat) : Int) - (1 : Int)) - ((i : Nat) : Int)))) = (0 + i)) then (W.cvA (W.revC l i (0 + (Int.toNat (((((List.length l) : Nat) : Int) - (1 : Int)) - ((i : Nat) : Int)))))) else (W.cvA (W.revC l i (0 + (Int.toNat (((((List.length l) : Nat) : Int) - (1 : Int)) - ((i : Nat) : Int))))))) (W.cvA (W.revC l i (0 + i)))) ∧
  ((I64 (((i + 1) : Nat) : Int)) ∧
  ((I64 ((((((List.length l) : Nat) : Int) - (1 : Int)) - ((i : Nat) : Int)) - (1 : Int))) ∧
  ((RoundQ C 28 D K (I_rv l) (fun i => 2 * i ≤ l.length + 1) (fun i => l.length + 1 - 2 * i) ((fun i => l.length + 1 - 2 * i) (i)) (rest_rev_0 D K Φ)) Ex.normal (St.mk [(0, (W.slK 0 l)), (2, (AV.i (((i + 1) : Nat) : Int))), (3, (AV.i ((((((List.length l) : Nat) : Int) - (1 : Int)) - ((i : Nat) : Int)) - (1 : Int)))), (9, (AV.v (Value.bool true)))] [(0, (Blk.c (AV.arr (List.length l) 34 (fun (j : Nat) => (if (j = (0 + (Int.toNat (((((List.length l) : Nat) : Int) - (1 : Int)) - ((i : Nat) : Int))))) then (W.cvA (W.revC l i (0 + i))) else (if (j = (0 + i)) then (W.cvA (W.revC l i (0 + (Int.toNat (((((List.length l) : Nat) : Int) - (1 : Int)) - ((i : Nat) : Int)))))) else (W.cvA (W.revC l i j))))))))] [0]))))))))))) ∧
 ((decide (((i : Nat) : Int) < (((((List.length l) : Nat) : Int) - (1 : Int)) - ((i : Nat) : Int)))) = false →
 (Φ Ex.normal (St.mk [(0, (W.slK 0 l)), (2, (AV.i ((i : Nat) : Int))), (3, (AV.i (((((List.length l) : Nat) : Int) - (1 : Int)) - ((i : Nat) : Int)))), (9, (AV.v (Value.bool false)))] [(0, (Blk.c (AV.arr (List.length l) 34 (fun (k : Nat) => (W.cvA (W.revC l i k))))))] [0])))) := by kernel_rfl
theorem shp_cv (a b : Cv) : shp (cvA a) (cvA b) := shC_t
theorem grow_fun (n : Nat) (hn : n < 2 ^ 40) : Fun C P F_grow [.dat 0 true 0 (fun _ => .v (.tuple #[])), i64 n] [] (.sl 0 [] 0 0 n false 34) [(0, .c (zK n))] := by
  refine in_grow (W := w_grow) rfl 0 (by simp) rfl (fun id h => absurd rfl h) fun D => ?_
  refine of_eq (grow_A n 0 _) ?_
  have hz : (((n : Nat) : Int) - 0).toNat = n := by omega
  rw [hz]
  refine ⟨fun h => ?_, fun _ => ⟨(by first | omega | decide | (unfold I64; omega)), (by first | omega | decide | (unfold I64; omega)), fun _ => ⟨⟨rfl, rfl, (by first | omega | decide | (unfold I64; omega))⟩, (by first | omega | decide | (unfold I64; omega)), (by first | omega | decide | (unfold I64; omega)), (by first | omega | decide | (unfold I64; omega)), ?_⟩, fun h => ?_⟩⟩
  · simp only [decide_eq_true_eq] at h
    omega
  · exact funPost_of (S2 := { tm := [(4, .sl 0 [] 0 0 n false 34)], hp := [(0, .c (zK n))], seen := [0] }) (by simp) (ent_of [(22, 0)] rfl (tm_cons rfl (sm_sl rfl rfl (Nat.zero_le _) (Nat.le_refl _) (by simp)) tm_nil) (hp_cons rfl rfl (sm_same rfl) hp_nil)) rfl
      (.inr ⟨rfl, rfl, rfl, rfl, Nat.zero_le _, Nat.le_refl _, by simp, rfl⟩) fun _ _ h => h
  · simp only [gt_iff_lt, decide_eq_false_iff_not] at h
    obtain rfl : n = 0 := by omega
    exact funPost_of (S2 := { tm := [(4, .sl 0 [] 0 0 0 false 34)], hp := [(0, .c (zK 0))], seen := [0] }) (by simp) (ent_of [] rfl (tm_cons rfl (sm_nil rfl rfl) tm_nil) (hp_new rfl rfl hp_nil)) rfl
      (.inr ⟨rfl, rfl, rfl, rfl, Nat.zero_le _, Nat.le_refl _, by simp, rfl⟩) fun _ _ h => h
theorem take_flat {ps : List (List Cv)} {i : Nat} (hi : i < ps.length) : (ps.take (i + 1)).flatten = (ps.take i).flatten ++ ps.getD i [] := by
  have e : ps[i]? = some (ps.getD i []) := by rw [List.getD_eq_getElem?_getD, List.getElem?_eq_getElem hi]; rfl
  rw [List.take_add_one, e]
  simp
theorem take_len (ps : List (List Cv)) (i : Nat) : (ps.take i).flatten.length ≤ ps.flatten.length := by
  have : ps.flatten = (ps.take i).flatten ++ (ps.drop i).flatten := by rw [← List.flatten_append, List.take_append_drop]
  rw [this, List.length_append]
  omega
theorem cAt_append (l q : List Cv) (k : Nat) : cAt (l ++ q) k = if k < l.length then cAt l k else cAt q (k - l.length) := by
  unfold cAt
  simp only [List.getD_eq_getElem?_getD]
  split
  · rename_i h; rw [List.getElem?_append_left h]
  · rename_i h; rw [List.getElem?_append_right (by omega)]
theorem cAt_none {l : List Cv} {k : Nat} (h : l.length ≤ k) : cAt l k = c0 := by
  unfold cAt
  rw [List.getD_eq_getElem?_getD, List.getElem?_eq_none h]; rfl
theorem concat_fun (ex : Bool) (exs : Nat → Bool) (ps : List (List Cv)) (hl : ps.length < 2 ^ 40) (hn : ps.flatten.length < 2 ^ 40) : Fun C P F_concat [dK ex exs ps] [] (ownK ps.flatten).1 (ownK ps.flatten).2 := by
  refine in_concat (W := w_concat) rfl 0 (by simp) rfl (fun id h => absurd rfl h) fun D => ?_
  refine of_eq (concat_A ex exs ps 0 _) ?_
  refine loop_inv (W := w_concat) ctx mixed ok_concat_0 (I_cc0 ex exs ps) (fun i => i ≤ ps.length) (fun i => ps.length - i) 0 (Nat.zero_le _) ?_ fun i hi => ?_
  · exact ent_of [] rfl (tm_cons rfl (sm_same rfl) (tm_cons rfl (sm_same rfl) (tm_cons rfl (sm_same rfl) (tm_cons rfl (sm_same rfl) (tm_cons rfl (sm_same rfl) tm_nil))))) hp_nil
  have ht := take_len ps
  refine of_eq (concat_L0 ex exs ps i 0 _) ⟨fun h => ?_, fun h => ?_⟩
  · simp only [decide_eq_true_eq] at h
    have hs := congrArg List.length (take_flat (ps := ps) (i := i) (by omega))
    rw [List.length_append] at hs
    have h1 := ht (i + 1)
    refine ⟨(by first | omega | decide | (unfold I64; omega)), (by first | omega | decide | (unfold I64; omega)), fun h2 => ?_, fun _ => ⟨(by first | omega | decide | (unfold I64; omega)), round_end (i + 1) (by omega) (ent_of [] rfl (tm_cons rfl (sm_same rfl) (tm_cons rfl (sm_int (by omega)) (tm_cons rfl (sm_same rfl) (tm_cons rfl (sm_same rfl) (tm_cons rfl (sm_same rfl) tm_nil))))) hp_nil) (by dsimp only; omega)⟩⟩
    simp only [decide_eq_true_eq] at h2
    omega
  simp only [decide_eq_false_iff_not] at h
  obtain rfl : i = ps.length := by omega
  clear h
  rw [List.take_length]
  refine ⟨grow_fun _ hn, ?_⟩
  refine loop_inv (W := w_concat) ctx mixed ok_concat_1 (I_cc1 ex exs ps) (fun i => i ≤ ps.length) (fun i => ps.length - i) 0 (Nat.zero_le _) ?_ fun i hi => ?_
  · exact ent_of [(24, 6)] rfl (tm_cons rfl (sm_sl rfl rfl (Nat.zero_le _) (Nat.le_refl _) (by simp)) (tm_cons rfl (sm_same rfl) (tm_cons rfl (sm_same rfl) (tm_cons rfl (sm_same rfl) tm_nil)))) (hp_cons rfl rfl (sm_arr' rfl fun j _ => rfl) hp_nil)
  refine of_eq (concat_L1 ex exs ps i 0 _) ⟨fun h => ?_, fun h => ?_⟩
  · simp only [decide_eq_true_eq] at h
    have hf := take_flat (ps := ps) (i := i) (by omega)
    have hs := congrArg List.length hf
    rw [List.length_append] at hs
    have h1 := ht (i + 1)
    refine ⟨(by first | omega | decide | (unfold I64; omega)), by omega, fun _ _ => shC_t, (by first | omega | decide | (unfold I64; omega)), round_end (i + 1) (by omega) (ent_of [(6, 6)] rfl (tm_cons rfl (sm_sl rfl (by omega) (by omega) (Nat.le_refl _) (by simp)) (tm_cons rfl (sm_same rfl) (tm_cons rfl (sm_same rfl) (tm_cons rfl (sm_same rfl) tm_nil)))) (hp_cons rfl rfl (sm_arr' rfl fun j hj => ?_) hp_nil)) (by dsimp only; omega)⟩
    show _ = cvA (cAt (ps.take (i + 1)).flatten j)
    rw [hf, cAt_append]
    unfold lay
    by_cases e : j < (ps.take i).flatten.length
    · rw [if_pos (by omega), if_pos e]; rfl
    · rw [if_neg (by omega), if_neg e]
      by_cases e2 : j < (ps.take i).flatten.length + (ps.getD i []).length
      · rw [if_pos (by omega), Nat.zero_add]
      · rw [if_neg (by omega), cAt_none (l := ps.getD i []) (by omega)]
        show cvA (cAt (ps.take i).flatten j) = _
        rw [cAt_none (by omega)]
  simp only [decide_eq_false_iff_not] at h
  obtain rfl : i = ps.length := by omega
  have hfin : fillK ps ps.length = rowK ps.flatten := by
    unfold fillK
    rw [List.take_length]
  rw [List.take_length, hfin]
  exact funPost_of (S2 := { tm := [(2, (ownK ps.flatten).1)], hp := (ownK ps.flatten).2, seen := [0] }) (by simp) (ent_of [(6, 0)] rfl (tm_cons rfl (sm_sl rfl rfl (Nat.le_refl _) (Nat.le_refl _) (by simp)) tm_nil) (hp_cons rfl rfl (sm_same rfl) hp_nil)) rfl
      (.inr ⟨rfl, rfl, rfl, rfl, Nat.le_refl _, Nat.le_refl _, by simp, rfl⟩) fun _ _ h => h
/-- A row of lists of elements, as it is handed on. -/
def CParts (n : Nat) (f : Nat → AV) : Prop := ∀ i, i < n → ∃ m ex e g, f i = .dat m ex e g ∧ (m = 0 ∨ e = 34) ∧ ∀ j, j < m → g j = cvA (toCv (g j))
theorem concat_call {n e : Nat} {ex : Bool} {f : Nat → AV} (hf : CParts n f) (he : n = 0 ∨ e = 1) (hl : n < 2 ^ 40) (hn : (lists n f).flatten.length < 2 ^ 40) : Fun C P F_concat [.dat n ex e f] [] (ownK (lists n f).flatten).1 (ownK (lists n f).flatten).2 := by
  have hlen : (lists n f).length = n := by simp [lists]
  have hget : ∀ i, i < n → (lists n f).getD i [] = toCs (f i) := fun i hi => by simp [lists, List.getD_eq_getElem?_getD, hi]
  have h := concat_fun ex (fun i => match f i with | .dat _ x _ _ => x | _ => false) (lists n f) (by omega) hn
  refine h.sim ⟨.inr ⟨hlen.symm, id, he, fun i hi => .inr ?_⟩, trivial⟩ trivial
  obtain ⟨m, x, e', g, h1, h2, h3⟩ := hf i hi
  dsimp only
  rw [hget i hi, h1]
  have hm : (toCs (.dat m x e' g)).length = m := by simp [toCs]
  refine ⟨hm.symm, id, h2, fun j hj => .inl ?_⟩
  have : cAt (toCs (.dat m x e' g)) j = toCv (g j) := by
    unfold cAt toCs
    simp [List.getD_eq_getElem?_getD, hj]
  show g j = cvA (cAt (toCs (.dat m x e' g)) j)
  rw [this]
  exact h3 j hj
theorem new_fun (k : Nat → Nat) : Fun C P F_new [kyA k] [] (ksA false (newL k)) [] := by
  refine in_new (W := w_new) rfl 0 (by simp) rfl (fun id h => absurd rfl h) fun D => ?_
  refine of_eq (new_A k 0 _) ⟨⟨⟨rfl, rfl⟩, trivial⟩, post_frz [5] ?_⟩
  refine post_cell rfl rfl (sm_st (sms_cons (sm_dat' rfl (by simp) fun i hi => ?_) sms_nil)) rfl
  obtain rfl : i = 0 := by omega
  rfl
theorem rnew_fun (k : Nat → Nat) : Fun C P F_rnew [kyA k] [] (ksA false (newL k)) [] := by
  refine in_rnew (W := w_rnew) rfl 0 (by simp) rfl (fun id h => absurd rfl h) fun D => ?_
  refine of_eq (rnew_A k 0 _) ⟨⟨⟨rfl, rfl⟩, trivial⟩, post_frz [5] ?_⟩
  refine post_cell rfl rfl (sm_st (sms_cons (sm_dat' rfl (by simp) fun i hi => ?_) sms_nil)) rfl
  obtain rfl : i = 0 := by omega
  rfl
theorem cAt_rev {l : List Cv} {k : Nat} (h : k < l.length) : cAt l.reverse k = cAt l (l.length - 1 - k) := by
  unfold cAt
  rw [List.getD_eq_getElem?_getD, List.getD_eq_getElem?_getD, List.getElem?_reverse h]
theorem rev_fun (l : List Cv) (hn : l.length < 2 ^ 60) : Fun C P F_rev [.sl 0 [] 0 l.length l.length false 34] [(0, .c (.arr l.length 34 (rowK l)))] (.tup []) [(0, .c (.arr l.length 34 (rowK l.reverse)))] := by
  refine in_rev (W := w_rev) rfl 1 (by simp) rfl one_id fun D => ?_
  refine of_eq (rev_A l 1 _) ⟨(by first | omega | decide | (unfold I64; omega)), ?_⟩
  refine loop_inv (W := w_rev) ctx mixed ok_rev_0 (I_rv l) (fun i => 2 * i ≤ l.length + 1) (fun i => l.length + 1 - 2 * i) 0 (by omega) ?_ fun i hi => ?_
  · refine ent_of [(0, 0)] rfl (tm_cons rfl (sm_sl rfl rfl (Nat.le_refl _) (Nat.le_refl _) (fun h => ⟨h, rfl⟩)) (tm_cons rfl (sm_same rfl) (tm_cons rfl (sm_int (by omega)) tm_nil))) (hp_cons rfl rfl (sm_arr fun k hk => ?_) hp_nil)
    show cvA (cAt l k) = cvA (revC l 0 k)
    unfold revC; rw [if_neg (by omega)]
  refine of_eq (rev_L0 l i 1 _) ⟨fun h => ?_, fun h => ?_⟩
  · simp only [decide_eq_true_eq] at h
    refine ⟨(by first | omega | decide | (unfold I64; omega)), (by first | omega | decide | (unfold I64; omega)), (by first | omega | decide | (unfold I64; omega)), shC_t, (by first | omega | decide | (unfold I64; omega)), by split <;> exact shp_cv _ _, (by first | omega | decide | (unfold I64; omega)), (by first | omega | decide | (unfold I64; omega)), round_end (i + 1) (by omega) (ent_of [(0, 0)] rfl (tm_cons rfl (sm_sl rfl rfl (Nat.le_refl _) (Nat.le_refl _) (fun h => ⟨h, rfl⟩)) (tm_cons rfl (sm_same rfl) (tm_cons rfl (sm_int (by omega)) tm_nil))) (hp_cons rfl rfl (sm_arr fun k hk => ?_) hp_nil)) (by dsimp only; omega)⟩
    have e1 : Int.toNat ((((l.length : Nat) : Int) - 1) - (i : Int)) = l.length - 1 - i := by omega
    rw [e1]
    show _ = cvA (revC l (i + 1) k)
    unfold revC
    by_cases a1 : k = 0 + (l.length - 1 - i)
    · rw [if_pos a1, if_neg (by omega), if_pos (by omega)]; congr 2; omega
    · rw [if_neg a1]
      by_cases a2 : k = 0 + i
      · rw [if_pos a2, if_neg (by omega), if_pos (by omega)]; congr 2; omega
      · rw [if_neg a2]
        by_cases a3 : k < i ∨ l.length - i ≤ k
        · rw [if_pos a3, if_pos (by omega)]
        · rw [if_neg a3, if_neg (by omega)]
  · simp only [decide_eq_false_iff_not] at h
    refine funPost_of (S2 := { tm := [], hp := [(0, .c (.arr l.length 34 (rowK l.reverse)))], seen := [0] }) (by simp) (ent_of [(0, 0)] rfl tm_nil (hp_cons rfl rfl (sm_arr fun k hk => ?_) hp_nil)) rfl (.inl ⟨rfl, rfl⟩) fun _ _ h => h
    show cvA (revC l i k) = cvA (cAt l.reverse k)
    rw [cAt_rev hk]
    unfold revC
    split
    · rfl
    · congr 2; omega
end Go.Bu.W

namespace Go.Bu.W
open Sp
def pushB (s c : Cv) (b : List Cv) : List Cv := if s.a < c.a then b ++ [s] else b
def pushA (s c : Cv) (a : List Cv) : List Cv := if s.a < c.a then a else a ++ [s]
def befN (c : Cv) (id : Int) : Nat → List Cv
  | 0 => []
  | j + 1 => pushB (sibC (wayC c id j) id) (wayC c id (j + 1)) (befN c id j)
def aftN (c : Cv) (id : Int) : Nat → List Cv
  | 0 => []
  | j + 1 => pushA (sibC (wayC c id j) id) (wayC c id (j + 1)) (aftN c id j)
abbrev memY (b a : List Cv) : List (Nat × Blk) := [(0, .c (slK 2 b)), (1, .c (slK 3 a)), (2, .c (arK b)), (3, .c (arK a))]
abbrev memZ (b a : List Cv) : List (Nat × Blk) := [(0, .c (slK 4 b)), (1, .c (slK 5 a)), (4, .c (arK b)), (5, .c (arK a))]
def crYD : List AV → List (Nat × Blk) → Option (AV × List (Nat × Blk))
  | [s, c], [(0, .c (.sl 2 [] 0 _ _ _ _)), (1, .c (.sl 3 [] 0 _ _ _ _)), (2, .c (.arr n _ f)), (3, .c (.arr m _ g))] => some (.v (.bool true), memZ (pushB (toCv s) (toCv c) (rowCs n f)) (pushA (toCv s) (toCv c) (rowCs m g)))
  | _, _ => none
def desL (l : List Cv) (id : Int) : List Cv := if hasB l id = true then desF l id else l
def crDes : List AV → Option (AV × List (Nat × Blk))
  | [x, i] => some (ksA false (desL (toKs x) (asI i)), [])
  | _ => none
def crS5 (g : Nat) (args : List AV) (H : List (Nat × Blk)) : Option (AV × List (Nat × Blk)) :=
  sel (Nat.beq g F_destroy) (crDes args) <| sel (Nat.beq g F_rdestroy) (crDes args) <| crS4 g args H
def wayD (keep : List Nat) (nt : Nat) (cuts : List Nat) : Way := ⟨crS4, fun g => Nat.beq g F_rev, keep, [], nt, cuts, []⟩
def wayYD (keep : List Nat) (nt : Nat) (cuts : List Nat) : Way := ⟨fun g args H => sel (Nat.beq g 1000000) (crYD args H) (crS1 g args H), fun _ => false, keep, [], nt, cuts, [2, 3, 6, 7]⟩
def w_destroy : Way := wayD [0, 1, 2, 4, 5, 6, 7, 8, 9, 10, 18, 26, 27, 28, 33] 58 []
def w_rdestroy : Way := wayD [0, 1, 2, 4, 5, 6, 7, 8, 9, 10, 15, 26, 31] 65 []
def w_way1d : Way := wayYD [0, 1, 2, 4, 5, 8, 27] 28 []
def memI (c : Cv) (id : Int) (p q : Nat) (b a : List Cv) : List (Nat × Blk) := [(0, .c (cvA c)), (1, .c (.i id)), (2, .c (slK p b)), (3, .c (slK q a)), (p, .c (arK b)), (q, .c (arK a))]
def I_wd (c : Cv) (id : Int) (l j : Nat) : St := { tm := [(0, ryld l), (1, .ptr 0 []), (2, .ptr 1 [])], hp := memI (wayC c id j) id 6 7 (befN c id j) (aftN c id j), seen := [0, 1, 2, 3, 6, 7] }
def tmDes (x i : Int) : List (Nat × AV) := [(1, .i x), (5, .i i), (7, .ptr 2 []), (8, .ptr 3 []), (26, .fn (.func 53) [.ptr 0 [], .ptr 1 []])]
def S_des1 (ex : Bool) (l : List Cv) (x i : Int) (c : Cv) : St := { tm := [(1, .i x), (2, .ptr 2 []), (4, .ptr 4 []), (5, .i i), (7, .ptr 7 []), (8, .ptr 8 []), (26, .fn (.func 53) [.ptr 26 [], .ptr 1026 []])], hp := [(2, .c (ksA ex l)), (4, .c (.st [.dat 0 true 0 (fun _ => .v (.tuple #[]))])), (7, .c (slK 100 [])), (8, .c (slK 101 [])), (26, .c (cvA c)), (100, .c (arK [])), (101, .c (arK [])), (1026, .c (.i x))], seen := [2, 4, 7, 8, 26, 100, 101, 1026] }
def S_desb (x i : Int) (s c : Cv) (b a : List Cv) : St := { tm := parTm [27, 28] [cvA s, cvA c] (tmIn (posIn (memY b a) [2, 3, 6, 7]) (tmDes x i)), hp := memY b a, seen := [0, 1, 2, 3] }
def S_desr (ex : Bool) (l : List Cv) (i : Nat) (b a : List Cv) : St := { tm := [(2, .ptr 2 []), (4, .ptr 4 []), (5, .i i), (7, .ptr 7 []), (8, .ptr 8 [])], hp := [(2, .c (ksA ex l)), (4, .c (.st [.dat 0 true 0 (fun _ => .v (.tuple #[]))])), (7, .c (slK 100 b)), (8, .c (slK 101 a)), (100, .c (arK b)), (101, .c (arK a))], seen := [2, 4, 7, 8, 100, 101] }
def I_rd (ex : Bool) (l : List Cv) (c : Cv) (id : Int) (i j : Nat) : St := { tm := [(1, .i id), (2, .ptr 2 []), (4, .ptr 4 []), (5, .i i), (6, slK 6 (befN c id j)), (7, slK 7 (aftN c id j).reverse), (8, .ptr 8 [])], hp := [(2, .c (ksA ex l)), (4, .c (.st [.dat 0 true 0 (fun _ => .v (.tuple #[]))])), (6, .c (arK (befN c id j))), (7, .c (arK (aftN c id j).reverse)), (8, .c (cvA (wayC c id j)))], seen := [2, 4, 6, 7, 8] }

theorem destroy_A (ex : Bool) (l : List Cv) (x : Int) {D : Dom} (K : Nat) (Φ : Ex → St → Prop) :
  (Holds C P 58 D K Φ (vc C w_destroy b_destroy [] (start [ksA ex l, .i x] []) lf)) =
  (Fun W.C W.P 35 [(W.ksA ex l), (AV.i x)] [] (AV.tup [(AV.i (if ((W.inR x) = true) then (((W.findI (W.toKs (W.ksA ex l)) x) : Nat) : Int) else (0 : Int))), (AV.sb (W.hasB (W.toKs (W.ksA ex l)) x))]) [] ∧
 (((! (W.hasB (W.toKs (W.ksA ex l)) x)) = true →
 ((((true = true) ∧ (true = true)) ∧ True) ∧
  (Φ Ex.ret (St.mk [(0, (W.ksA ex l)), (1, (AV.i x)), (2, (AV.ptr 2 [])), (4, (AV.ptr 4 [])), (5, (AV.i (if ((W.inR x) = true) then (((W.findI (W.toKs (W.ksA ex l)) x) : Nat) : Int) else (0 : Int)))), (6, (AV.sb (W.hasB (W.toKs (W.ksA ex l)) x))), (18, (AV.v (Value.bool true)))] [(2, (Blk.c (W.ksA ex l))), (4, (Blk.c (W.ksA ex l)))] [4, 2])))) ∧
 ((! (W.hasB (W.toKs (W.ksA ex l)) x)) = false →
 ((((0 : Int) ≤ (if ((W.inR x) = true) then (((W.findI (W.toKs (W.ksA ex l)) x) : Nat) : Int) else (0 : Int))) ∧ ((if ((W.inR x) = true) then (((W.findI (W.toKs (W.ksA ex l)) x) : Nat) : Int) else (0 : Int)) < (((List.length l) : Nat) : Int))) ∧
  (Fun W.C W.P 36 [(W.cvA (W.cAt l (Int.toNat (if ((W.inR x) = true) then (((W.findI (W.toKs (W.ksA ex l)) x) : Nat) : Int) else (0 : Int))))), (AV.i x)] [] (AV.fn (Fn.func (53 : FuncId)) [(AV.ptr 0 []), (AV.ptr 1 [])]) [(0, (Blk.c (W.cvA (W.cAt l (Int.toNat (if ((W.inR x) = true) then (((W.findI (W.toKs (W.ksA ex l)) x) : Nat) : Int) else (0 : Int))))))), (1, (Blk.c (AV.i x)))] ∧
  (RngOK W.C W.P 58 D K (stmtAt b_destroy [1, 1, 1, 1, 0, 1, 0]) (St.mk [(0, (W.ksA ex l)), (1, (AV.i x)), (2, (AV.ptr 2 [])), (4, (AV.ptr 4 [])), (5, (AV.i (if ((W.inR x) = true) then (((W.findI (W.toKs (W.ksA ex l)) x) : Nat) : Int) else (0 : Int)))), (6, (AV.sb (W.hasB (W.toKs (W.ksA ex l)) x))), (7, (AV.ptr 7 [])), (8, (AV.ptr 8 [])), (18, (AV.v (Value.bool false))), (26, (AV.fn (Fn.func (53 : FuncId)) [(AV.ptr 26 []), (AV.ptr 1026 [])]))] [(2, (Blk.c (W.ksA ex l))), (4, (Blk.c (AV.st [(AV.dat 0 true 0 (fun (x1 : Nat) => (AV.v (Value.tuple (List.toArray [])))))]))), (7, (Blk.c (AV.dat 0 true 0 (fun (x1 : Nat) => (AV.v (Value.tuple (List.toArray []))))))), (8, (Blk.c (AV.dat 0 true 0 (fun (x1 : Nat) => (AV.v (Value.tuple (List.toArray []))))))), (26, (Blk.c (W.cvA (W.cAt l (Int.toNat (if ((W.inR x) = true) then (((W.findI (W.toKs (W.ksA ex l)) x) : Nat) : Int) else (0 : Int))))))), (1026, (Blk.c (AV.i x)))] [1026, 26, 8, 7, 4, 2]) (fun (e : Ex) (S' : St) => Holds W.C W.P 58 D K Φ (after W.C w_destroy b_destroy [1, 1, 1, 1, 0, 1, 0] [] lf e S')))))))) := by kernel_rfl
theorem destroy_B0 (x i : Int) (s c : Cv) (b a : List Cv) {D : Dom} (K : Nat) (Φ : Ex → St → Prop) :
  (Holds C P 58 D K Φ (vc C w_destroy asg_destroy_0 [] (S_desb x i s c b a) (nx fun S' => vc C w_destroy rbd_destroy_0 [] S' lf))) =
  ((W.ShC) ∧
 ((W.ShC) ∧
 (((decide ((W.Cv.a s) < (W.Cv.a c))) = true →
 (((((List.length b) + 1) * 48) ≤ 140737488355328) ∧
  (Φ Ex.normal (St.mk [(1, (AV.i x)), (5, (AV.i i)), (7, (AV.ptr 0 [])), (8, (AV.ptr 1 [])), (9, (AV.ptr 9 [])), (10, (AV.ptr 10 [])), (27, (W.cvA s)), (28, (W.cvA c)), (33, (AV.v (Value.bool true)))] [(0, (Blk.c (AV.sl 37 [] 0 ((List.length b) + 1) ((List.length b) + 1) false 34))), (1, (Blk.c (W.slK 3 a))), (3, (Blk.c (W.arK a))), (9, (Blk.c (W.cvA s))), (10, (Blk.c (W.cvA c))), (36, (Blk.c (AV.st [(W.cvA s)]))), (37, (Blk.c (AV.arr ((List.length b) + 1) 34 (cat (List.length b) (fun (i1 : Nat) => (W.cvA (W.cAt b (0 + i1)))) (fun (i1 : Nat) => (nthD [(W.cvA s)] (0 + i1) (AV.v (Value.tuple (List.toArray [])))))))))] [37, 36, 10, 9, 0, 1, 2, 3])))) ∧
 ((decide ((W.Cv.a s) < (W.Cv.a c))) = false →
 (((((List.length a) + 1) * 48) ≤ 140737488355328) ∧
  (Φ Ex.normal (St.mk [(1, (AV.i x)), (5, (AV.i i)), (7, (AV.ptr 0 [])), (8, (AV.ptr 1 [])), (9, (AV.ptr 9 [])), (10, (AV.ptr 10 [])), (27, (W.cvA s)), (28, (W.cvA c)), (33, (AV.v (Value.bool false)))] [(0, (Blk.c (W.slK 2 b))), (1, (Blk.c (AV.sl 41 [] 0 ((List.length a) + 1) ((List.length a) + 1) false 34))), (2, (Blk.c (W.arK b))), (9, (Blk.c (W.cvA s))), (10, (Blk.c (W.cvA c))), (40, (Blk.c (AV.st [(W.cvA s)]))), (41, (Blk.c (AV.arr ((List.length a) + 1) 34 (cat (List.length a) (fun (i1 : Nat) => (W.cvA (W.cAt a (0 + i1)))) (fun (i1 : Nat) => (nthD [(W.cvA s)] (0 + i1) (AV.v (Value.tuple (List.toArray [])))))))))] [41, 40, 10, 9, 0, 1, 2, 3]))))))) := by kernel_rfl
theorem destroy_R0 (ex : Bool) (l : List Cv) (i : Nat) (b a : List Cv) {D : Dom} (K : Nat) (Φ : Ex → St → Prop) :
  (Holds C P 58 D K Φ (after C w_destroy b_destroy [1, 1, 1, 1, 0, 1, 0] [] lf .normal (S_desr ex l i b a))) =
  (Fun W.C W.P 37 [(W.slK 0 a)] [(0, (Blk.c (W.arK a)))] (AV.tup []) [(0, (Blk.c (AV.arr (List.length a) 34 (W.rowK (List.reverse (W.rowCs (List.length a) (W.rowK a)))))))] ∧
 ((((0 : Int) ≤ (0 : Int)) ∧ (((0 : Int) ≤ ((i : Nat) : Int)) ∧ (((i : Nat) : Int) ≤ (((List.length l) : Nat) : Int)))) ∧
 ((I64 (((i + 1) : Nat) : Int)) ∧
 ((((0 : Int) ≤ (((i + 1) : Nat) : Int)) ∧ (((((i + 1) : Nat) : Int) ≤ (((List.length l) : Nat) : Int)) ∧ ((((List.length l) : Nat) : Int) ≤ (((List.length l) : Nat) : Int)))) ∧
 (Fun W.C W.P 38 [(AV.dat 4 false 1 (fun (i1 : Nat) => (nthD [(AV.dat i Bool.false 34 (fun (i2 : Nat) => (W.cvA (W.cAt l (0 + i2))))), (AV.dat (List.length b) false 34 (fun (i2 : Nat) => (W.cvA (W.cAt b (0 + i2))))), (AV.dat (List.length a) false 34 (fun (i2 : Nat) => (W.cvA (W.cAt (List.reverse (W.rowCs (List.length a) (W.rowK a))) (0 + i2))))), (AV.dat ((List.length l) - (i + 1)) ex 34 (fun (i2 : Nat) => (W.cvA (W.cAt l ((i + 1) + i2)))))] (0 + i1) (AV.v (Value.tuple (List.toArray []))))))] [] (W.slK 0 (List.flatten (W.lists 4 (fun (i1 : Nat) => (nthD [(AV.dat i Bool.false 34 (fun (i2 : Nat) => (W.cvA (W.cAt l (0 + i2))))), (AV.dat (List.length b) false 34 (fun (i2 : Nat) => (W.cvA (W.cAt b (0 + i2))))), (AV.dat (List.length a) false 34 (fun (i2 : Nat) => (W.cvA (W.cAt (List.reverse (W.rowCs (List.length a) (W.rowK a))) (0 + i2))))), (AV.dat ((List.length l) - (i + 1)) ex 34 (fun (i2 : Nat) => (W.cvA (W.cAt l ((i + 1) + i2)))))] (0 + i1) (AV.v (Value.tuple (List.toArray [])))))))) [(0, (Blk.c (W.arK (List.flatten (W.lists 4 (fun (i1 : Nat) => (nthD [(AV.dat i Bool.false 34 (fun (i2 : Nat) => (W.cvA (W.cAt l (0 + i2))))), (AV.dat (List.length b) false 34 (fun (i2 : Nat) => (W.cvA (W.cAt b (0 + i2))))), (AV.dat (List.length a) false 34 (fun (i2 : Nat) => (W.cvA (W.cAt (List.reverse (W.rowCs (List.length a) (W.rowK a))) (0 + i2))))), (AV.dat ((List.length l) - (i + 1)) ex 34 (fun (i2 : Nat) => (W.cvA (W.cAt l ((i + 1) + i2)))))] (0 + i1) (AV.v (Value.tuple (List.toArray []))))))))))] ∧
 ((((true = true) ∧ (true = true)) ∧ True) ∧
 (Φ Ex.ret (St.mk [(2, (AV.ptr 2 [])), (4, (AV.ptr 4 [])), (5, (AV.i ((i : Nat) : Int))), (7, (AV.ptr 7 [])), (8, (AV.ptr 8 []))] [(2, (Blk.c (W.ksA ex l))), (4, (Blk.c (AV.st [(W.slK 56 (List.flatten (W.lists 4 (fun (i1 : Nat) => (nthD [(AV.dat i Bool.false 34 (fun (i2 : Nat) => (W.cvA (W.cAt l (0 + i2))))), (AV.dat (List.length b) false 34 (fun (i2 : Nat) => (W.cvA (W.cAt b (0 + i2))))), (AV.dat (List.length a) false 34 (fun (i2 : Nat) => (W.cvA (W.cAt (List.reverse (W.rowCs (List.length a) (W.rowK a))) (0 + i2))))), (AV.dat ((List.length l) - (i + 1)) ex 34 (fun (i2 : Nat) => (W.cvA (W.cAt l ((i + 1) + i2)))))] (0 + i1) (AV.v (Value.tuple (List.toArray []))))))))]))), (7, (Blk.c (W.slK 100 b))), (8, (Blk.c (W.slK 101 a))), (56, (Blk.c (W.arK (List.flatten (W.lists 4 (fun (i1 : Nat) => (nthD [(AV.dat i Bool.false 34 (fun (i2 : Nat) => (W.cvA (W.cAt l (0 + i2))))), (AV.dat (List.length b) false 34 (fun (i2 : Nat) => (W.cvA (W.cAt b (0 + i2))))), (AV.dat (List.length a) false 34 (fun (i2 : Nat) => (W.cvA (W.cAt (List.reverse (W.rowCs (List.length a) (W.rowK a))) (0 + i2))))), (AV.dat ((List.length l) - (i + 1)) ex 34 (fun (i2 : Nat) => (W.cvA (W.cAt l ((i + 1) + i2)))))] (0 + i1) (AV.v (Value.tuple (List.toArray []))))))))))] [56, 55, 2, 4, 7, 8, 100, 101])))))))) := by kernel_rfl
theorem way1d_A (c : Cv) (id : Int) (l : Nat) {D : Dom} (K : Nat) (Φ : Ex → St → Prop) :
  (Holds C P 28 D K Φ (vc C w_way1d b_way1 [] (start [ryld l, .ptr 0 [], .ptr 1 []] (memI c id 4 5 [] [])) lf)) =
  (LoopOK W.C W.P 28 D K (bodyAt b_way1 [0]) (St.mk [(0, (AV.v (Value.func (Fn.yield l) (List.toArray []) (List.toArray [])))), (1, (AV.ptr 0 [])), (2, (AV.ptr 1 []))] [(0, (Blk.c (W.cvA c))), (1, (Blk.c (AV.i id))), (2, (Blk.c (AV.sl 4 [] 0 0 0 false 34))), (3, (Blk.c (AV.sl 5 [] 0 0 0 false 34))), (4, (Blk.c (AV.arr 0 34 (W.rowK ([] : List Cv))))), (5, (Blk.c (AV.arr 0 34 (W.rowK ([] : List Cv)))))] [0, 1, 2, 3, 4, 5]) (fun (e : Ex) (S' : St) => Holds W.C W.P 28 D K Φ (after W.C w_way1d b_way1 [0] [] lf e S'))) := by kernel_rfl
theorem way1d_L0 (c : Cv) (id : Int) (l j : Nat) {D : Dom} (K : Nat) (Φ : Ex → St → Prop) :
  (Holds C P 28 D K (RoundQ C 28 D K (I_wd c id l) (fun j => j ≤ 12 - c.d.toNat) (fun j => 12 - c.d.toNat - j) ((fun j => 12 - c.d.toNat - j) j) (fun e S' => Holds C P 28 D K Φ (after C w_way1d b_way1 [0] [] lf e S'))) (vc C w_way1d (bodyAt b_way1 [0]) [] (I_wd c id l j) lf)) =
  (((decide ((W.Cv.d (W.wayC c id j)) < (12 : Int))) = true →
 ((I64 ((W.Cv.d (W.wayC c id j)) + (1 : Int))) ∧
  (Fun W.C W.P 45 [(AV.i ((W.Cv.d (W.wayC c id j)) + (1 : Int)))] [] (AV.i (W.szI ((W.Cv.d (W.wayC c id j)) + (1 : Int)))) [] ∧
  (True ∧
  (((W.szI ((W.Cv.d (W.wayC c id j)) + (1 : Int))) ≠ (0 : Int)) ∧
  ((I64 (Int.tdiv id (W.szI ((W.Cv.d (W.wayC c id j)) + (1 : Int))))) ∧
  (((2 : Int) ≠ (0 : Int)) ∧
  ((I64 ((1 : Int) - (W.sideI (W.wayC c id j) id))) ∧
  (Fun W.C W.P 54 [(W.cvA (W.wayC c id j)), (AV.i ((1 : Int) - (W.sideI (W.wayC c id j) id)))] [] (W.cvA (W.sibC (W.wayC c id j) id)) [] ∧
  ((True ∧ (True ∧ ((∀ (i : Nat), ((i < 32) → True)) ∧ True))) ∧
  ((W.ShC) ∧
  (Fun W.C W.P 54 [(W.cvA (W.wayC c id j)), (AV.i (W.sideI (W.wayC c id j) id))] [] (W.cvA (W.stepC (W.wayC c id j) id)) [] ∧
  ((True ∧ (True ∧ ((∀ (i : Nat), ((i < 32) → True)) ∧ True))) ∧
  ((W.ShC) ∧
  (YFun W.C W.P D [2, 3, 6, 7] l [(W.cvA (W.sibC (W.wayC c id j) id)), (W.cvA (W.stepC (W.wayC c id j) id))] [(0, (Blk.c (W.slK 2 (W.befN c id j)))), (1, (Blk.c (W.slK 3 (W.aftN c id j)))), (2, (Blk.c (W.arK (W.befN c id j)))), (3, (Blk.c (W.arK (W.aftN c id j))))] (AV.v (Value.bool true)) [(0, (Blk.c (W.slK 4 (W.pushB (W.sibC (W.wayC c id j) id) (W.stepC (W.wayC c id j) id) (W.rowCs (List.length (W.befN c id j)) (W.rowK (W.befN c id j))))))), (1, (Blk.c (W.slK 5 (W.pushA (W.sibC (W.wayC c id j) id) (W.stepC (W.wayC c id j) id) (W.rowCs (List.length (W.aftN c id j)) (W.rowK (W.aftN c id j))))))), (4, (Blk.c (W.arK (W.pushB (W.sibC (W.wayC c id j) id) (W.stepC (W.wayC c id j) id) (W.rowCs (List.length (W.befN c id j)) (W.rowK (W.befN c id j))))))), (5, (Blk.c (W.arK (W.pushA (W.sibC (W.wayC c id j) id) (W.stepC (W.wayC c id j) id) (W.rowCs (List.length (W.aftN c id j)) (W.rowK (W.aftN c id j)))))))] ∧
  ((RoundQ C 28 D K (I_wd c id l) (fun j => j ≤ 12 - c.d.toNat) (fun j => 12 - c.d.toNat - j) ((fun j => 12 - c.d.toNat - j) j) (fun e S' => Holds C P 28 D K Φ (after C w_way1d b_way1 [0] [] lf e S'))) Ex.normal (St.mk [(0, (AV.v (Value.func (Fn.yield l) (List.toArray []) (List.toArray [])))), (1, (AV.ptr 0 [])), (2, (AV.ptr 1 [])), (4, (AV.i (W.sideI (W.wayC c id j) id))), (5, (AV.ptr 5 [])), (8, (AV.v (Value.bool true))), (27, (AV.v (Value.bool false)))] [(0, (Blk.c (W.cvA (W.stepC (W.wayC c id j) id)))), (1, (Blk.c (AV.i id))), (2, (Blk.c (W.slK 26 (W.pushB (W.sibC (W.wayC c id j) id) (W.stepC (W.wayC c id j) id) (W.rowCs (List.length (W.befN c id j)) (W.rowK (W.befN c id j))))))), (3, (Blk.c (W.slK 1026 (W.pushA (W.sibC (W.wayC c id j) id) (W.stepC (W.wayC c id j) id) (W.rowCs (List.length (W.aftN c id j)) (W.rowK (W.aftN c id j))))))), (5, (Blk.c (W.cvA (W.sibC (W.wayC c id j) id)))), (26, (Blk.c (W.arK (W.pushB (W.sibC (W.wayC c id j) id) (W.stepC (W.wayC c id j) id) (W.rowCs (List.length (W.befN c id j)) (W.rowK (W.befN c id j))))))), (1026, (Blk.c (W.arK (W.pushA (W.sibC (W.wayC c id j) id) (W.stepC (W.wayC c id j) id) (W.rowCs (List.length (W.aftN c id j)) (W.rowK (W.aftN c id j)))))))] [1026, 26, 5, 0, 1, 2, 3, 6, 7]))))))))))))))))) ∧
 ((decide ((W.Cv.d (W.wayC c id j)) < (12 : Int))) = false →
 (Φ Ex.normal (St.mk [(0, (AV.v (Value.func (Fn.yield l) (List.toArray []) (List.toArray [])))), (1, (AV.ptr 0 [])), (2, (AV.ptr 1 [])), (8, (AV.v (Value.bool false)))] [(0, (Blk.c (W.cvA (W.wayC c id j)))), (1, (Blk.c (AV.i id))), (2, (Blk.c (W.slK 6 (W.befN c id j)))), (3, (Blk.c (W.slK 7 (W.aftN c id j)))), (6, (Blk.c (W.arK (W.befN c id j)))), (7, (Blk.c (W.arK (W.aftN c id j))))] [0, 1, 2, 3, 6, 7])))) := by kernel_rfl
theorem rdestroy_A (ex : Bool) (l : List Cv) (x : Int) {D : Dom} (K : Nat) (Φ : Ex → St → Prop) :
  (Holds C P 65 D K Φ (vc C w_rdestroy b_rdestroy [] (start [ksA ex l, .i x] []) lf)) =
  (Fun W.C W.P 47 [(W.ksA ex l), (AV.i x)] [] (AV.i (W.atI (W.toKs (W.ksA ex l)) x)) [] ∧
 (True ∧
 (((decide ((W.atI (W.toKs (W.ksA ex l)) x) < (0 : Int))) = true →
 ((((true = true) ∧ (true = true)) ∧ True) ∧
  (Φ Ex.ret (St.mk [(0, (W.ksA ex l)), (1, (AV.i x)), (2, (AV.ptr 2 [])), (4, (AV.ptr 4 [])), (5, (AV.i (W.atI (W.toKs (W.ksA ex l)) x))), (15, (AV.v (Value.bool true)))] [(2, (Blk.c (W.ksA ex l))), (4, (Blk.c (W.ksA ex l)))] [4, 2])))) ∧
 ((decide ((W.atI (W.toKs (W.ksA ex l)) x) < (0 : Int))) = false →
 ((((0 : Int) ≤ (W.atI (W.toKs (W.ksA ex l)) x)) ∧ ((W.atI (W.toKs (W.ksA ex l)) x) < (((List.length l) : Nat) : Int))) ∧
  ((W.ShC) ∧
  (LoopOK W.C W.P 65 D K (bodyAt b_rdestroy [1, 1, 1, 1, 1, 1, 0, 0]) (St.mk [(0, (W.ksA ex l)), (1, (AV.i x)), (2, (AV.ptr 2 [])), (4, (AV.ptr 4 [])), (5, (AV.i (W.atI (W.toKs (W.ksA ex l)) x))), (6, (AV.sl 17 [] 0 0 0 true 34)), (7, (AV.sl 18 [] 0 0 0 true 34)), (8, (AV.ptr 8 [])), (15, (AV.v (Value.bool false)))] [(2, (Blk.c (W.ksA ex l))), (4, (Blk.c (AV.st [(AV.dat 0 true 0 (fun (x1 : Nat) => (AV.v (Value.tuple (List.toArray [])))))]))), (8, (Blk.c (W.cvA (W.cAt l (Int.toNat (W.atI (W.toKs (W.ksA ex l)) x)))))), (17, (Blk.c (AV.st []))), (18, (Blk.c (AV.st [])))] [8, 18, 17, 4, 2]) (fun (e : Ex) (S' : St) => Holds W.C W.P 65 D K Φ (after W.C w_rdestroy b_rdestroy [1, 1, 1, 1, 1, 1, 0, 0] [] lf e S'))))))))) := by kernel_rfl
noncomputable abbrev bd_rdestroy_0 : Code := bodyAt (b_rdestroy) [1, 1, 1, 1, 1, 1, 0, 0]
theorem ok_rdestroy_0 : codeOK bd_rdestroy_0 = true := by kernel_rfl
noncomputable abbrev rest_rdestroy_0 (D : Dom) (K : Nat) (Φ : Ex → St → Prop) : Ex → St → Prop := fun e S' => Holds C P 65 D K Φ (after C w_rdestroy (b_rdestroy) [1, 1, 1, 1, 1, 1, 0, 0] [] lf e S')
theorem rdestroy_L0 (ex : Bool) (l : List Cv) (c : Cv) (x : Int) (i j : Nat) {D : Dom} (K : Nat) (Φ : Ex → St → Prop) :
  (Holds C P 65 D K (RoundQ C 65 D K (I_rd ex l c x i) (fun j => j ≤ 12 - c.d.toNat) (fun j => 12 - c.d.toNat - j) ((fun j => 12 - c.d.toNat - j) (j)) (rest_rdestroy_0 D K Φ)) (vc C w_rdestroy bd_rdestroy_0 [] ((I_rd ex l c x i) (j)) lf)) =
  (((decide ((W.Cv.d (W.wayC c x j)) < (12 : Int))) = true →
 (Fun W.C W.P 49 [(W.cvA (W.wayC c x j)), (AV.i x)] [] (AV.i (W.sideI (W.wayC c x j) x)) [] ∧
  (True ∧
  ((((W.sideI (W.wayC c x j) x) == (1 : Int)) = true →
  (Fun W.C W.P 48 [(W.cvA (W.wayC c x j)), (AV.i (0 : Int))] [] (W.cvA (W.chC (W.wayC c x j) 0)) [] ∧
   ((True ∧ (True ∧ ((∀ (i1 : Nat), ((i1 < 32) → True)) ∧ True))) ∧
   (((((List.length (W.befN c x j)) + 1) * 48) ≤ 140737488355328) ∧
   (Fun W.C W.P 48 [(W.cvA (W.wayC c x j)), (AV.i (W.sideI (W.wayC c x j) x))] [] (W.cvA (W.stepC (W.wayC c x j) x)) [] ∧
   ((True ∧ (True ∧ ((∀ (i1 : Nat), ((i1 < 32) → True)) ∧ True))) ∧
   ((W.ShC) ∧
   ((RoundQ C 65 D K (I_rd ex l c x i) (fun j => j ≤ 12 - c.d.toNat) (fun j => 12 - c.d.toNat - j) ((fun j => 12 - c.d.toNat - j) (j)) (rest_rdestroy_0 D K Φ)) Ex.normal (St.mk [(1, (AV.i x)), (2, (AV.ptr 2 [])), (4, (AV.ptr 4 [])), (5, (AV.i ((i : Nat) : Int))), (6, (AV.sl 36 [] 0 ((List.length (W.befN c x j)) + 1) ((List.length (W.befN c x j)) + 1) false 34)), (7, (W.slK 7 (List.reverse (W.aftN c x j)))), (8, (AV.ptr 8 [])), (9, (AV.i (W.sideI (W.wayC c x j) x))), (26, (AV.v (Value.bool true))), (31, (AV.v (Value.bool true)))] [(2, (Blk.c (W.ksA ex l))), (4, (Blk.c (AV.st [(AV.dat 0 true 0 (fun (x1 : Nat) => (AV.v (Value.tuple (List.toArray [])))))]))), (7, (Blk.c (W.arK (List.reverse (W.aftN c x j))))), (8, (Blk.c (W.cvA (W.stepC (W.wayC c x j) x)))), (35, (Blk.c (AV.st [(W.cvA (W.chC (W.wayC c x j) 0))]))), (36, (Blk.c (AV.arr ((List.length (W.befN c x j)) + 1) 34 (cat (List.length (W.befN c x j)) (fun (i1 : Nat) => (W.cvA (W.cAt (W.befN c x j) (0 + i1)))) (fun (i1 : Nat) => (nthD [(W.cvA (W.chC (W.wayC c x j) 0))] (0 + i1) (AV.v (Value.tuple (List.toArray [])))))))))] [36, 35, 2, 4, 6, 7, 8]))))))))) ∧
  (((W.sideI (W.wayC c x j) x) == (1 : Int)) = false →
  (Fun W.C W.P 48 [(W.cvA (W.wayC c x j)), (AV.i (1 : Int))] [] (W.cvA (W.chC (W.wayC c x j) 1)) [] ∧
   ((True ∧ (True ∧ ((∀ (i1 : Nat), ((i1 < 32) → True)) ∧ True))) ∧
   ((((1 + (List.length (List.reverse (W.aftN c x j)))) * 48) ≤ 140737488355328) ∧
   (Fun W.C W.P 48 [(W.cvA (W.wayC c x j)), (AV.i (W.sideI (W.wayC c x j) x))] [] (W.cvA (W.stepC (W.wayC c x j) x)) [] ∧
   ((True ∧ (True ∧ ((∀ (i1 : Nat), ((i1 < 32) → True)) ∧ True))) ∧
   ((W.ShC) ∧
   ((RoundQ C 65 D K (I_rd ex l c x i) (fun j => j ≤ 12 - c.d.toNat) (fun j => 12 - c.d.toNat - j) ((fun j => 12 - c.d.toNat - j) (j)) (rest_rdestroy_0 D K Φ)) Ex.normal (St.mk [(1, (AV.i x)), (2, (AV.ptr 2 [])), (4, (AV.ptr 4 [])), (5, (AV.i ((i : Nat) : Int))), (6, (W.slK 6 (W.befN c x j))), (7, (AV.sl 41 [] 0 (1 + (List.length (List.reverse (W.aftN c x j)))) (1 + (List.length (List.reverse (W.aftN c x j)))) false 34)), (8, (AV.ptr 8 [])), (9, (AV.i (W.sideI (W.wayC c x j) x))), (26, (AV.v (Value.bool true))), (31, (AV.v (Value.bool false)))] [(2, (Blk.c (W.ksA ex l))), (4, (Blk.c (AV.st [(AV.dat 0 true 0 (fun (x1 : Nat) => (AV.v (Value.tuple (List.toArray [])))))]))), (6, (Blk.c (W.arK (W.befN c x j)))), (7, (Blk.c (W.arK (List.reverse (W.aftN c x j))))), (8, (Blk.c (W.cvA (W.stepC (W.wayC c x j) x)))), (41, (Blk.c (AV.arr (1 + (List.length (List.reverse (W.aftN c x j)))) 34 (cat 1 (fun (i1 : Nat) => (nthD [(W.cvA (W.chC (W.wayC c x j) 1))] (0 + i1) (AV.v (Value.tuple (List.toArray []))))) (fun (i1 : Nat) => (W.cvA (W.cAt (List.reverse (W.aftN c x j)) (0 + i1))))))))] [41, 39, 2, 4, 6, 7, 8]))))))))))))) ∧
 ((decide ((W.Cv.d (W.wayC c x j)) < (12 : Int))) = false →
 ((((0 : Int) ≤ (0 : Int)) ∧ (((0 : Int) ≤ ((i : Nat) : Int)) ∧ (((i : Nat) : Int) ≤ (((List.length l) : Nat) : Int)))) ∧
  ((((0 + i) * 48) ≤ 140737488355328) ∧
  (((((0 + i) + (List.length (W.befN c x j))) * 48) ≤ 140737488355328) ∧
  ((((((0 + i) + (List.length (W.befN c x j))) + (List.length (List.reverse (W.aftN c x j)))) * 48) ≤ 140737488355328) ∧
  ((I64 (((i + 1) : Nat) : Int)) ∧
  ((((0 : Int) ≤ (((i + 1) : Nat) : Int)) ∧ (((((i + 1) : Nat) : Int) ≤ (((List.length l) : Nat) : Int)) ∧ ((((List.length l) : Nat) : Int) ≤ (((List.length l) : Nat) : Int)))) ∧
  (((((((0 + i) + (List.length (W.befN c x j))) + (List.length (List.reverse (W.aftN c x j)))) + ((List.length l) - (i + 1))) * 48) ≤ 140737488355328) ∧
  ((((true = true) ∧ (true = true)) ∧ True) ∧
  (Φ Ex.ret (St.mk [(1, (AV.i x)), (2, (AV.ptr 2 [])), (4, (AV.ptr 4 [])), (5, (AV.i ((i : Nat) : Int))), (6, (W.slK 6 (W.befN c x j))), (7, (W.slK 7 (List.reverse (W.aftN c x j)))), (8, (AV.ptr 8 [])), (10, (AV.sl 56 [] 0 (((0 + i) + (List.length (W.befN c x j))) + (List.length (List.reverse (W.aftN c x j)))) (((0 + i) + (List.length (W.befN c x j))) + (List.length (List.reverse (W.aftN c x j)))) false 34)), (26, (AV.v (Value.bool false)))] [(2, (Blk.c (W.ksA ex l))), (4, (Blk.c (AV.st [(AV.sl 63 [] 0 ((((0 + i) + (List.length (W.befN c x j))) + (List.length (List.reverse (W.aftN c x j)))) + ((List.length l) - (i + 1))) ((((0 + i) + (List.length (W.befN c x j))) + (List.length (List.reverse (W.aftN c x j)))) + ((List.length l) - (i + 1))) false 34)]))), (6, (Blk.c (W.arK (W.befN c x j)))), (7, (Blk.c (W.arK (List.reverse (W.aftN c x j))))), (8, (Blk.c (W.cvA (W.wayC c x j)))), (63, (Blk.c (AV.arr ((((0 + i) + (List.length (W.befN c x j))) + (List.length (List.reverse (W.aftN c x j)))) + ((List.length l) - (i + 1))) 34 (cat (((0 + i) + (List.length (W.befN c x j))) + (List.length (List.reverse (W.aftN c x j)))) (fun (i1 : Nat) => (cat ((0 + i) + (List.length (W.befN c x j))) (fun (i2 : Nat) => (cat (0 + i) (fun (i3 : Nat) => (W.cvA (W.cAt l (0 + (0 + i3))))) (fun (i3 : Nat) => (W.cvA (W.cAt (W.befN c x j) (0 + i3)))) (0 + i2))) (fun (i2 : Nat) => (W.cvA (W.cAt (List.reverse (W.aftN c x j)) (0 + i2)))) (0 + i1))) (fun (i1 : Nat) => (W.cvA (W.cAt l ((i + 1) + i1))))))))] [63, 56, 53, 50, 45, 2, 4, 6, 7, 8])))))))))))) := by kernel_rfl
theorem sib_lt {c : Cv} (h : CvOK c) (hd : c.d < 12) {id : Int} (h0 : 0 ≤ id) (h1 : id < 4096) : (sibC c id).a < (stepC c id).a ↔ sideN c id = 1 := by
  obtain ⟨e, hlt⟩ := side_nat h hd h0 h1
  show 2 * c.a + ((1 - sideI c id).toNat : Int) < 2 * c.a + (sideN c id : Int) ↔ _
  omega
theorem befN_front (c : Cv) (id : Int) : ∀ j, befN c id (j + 1) = (if (sibC c id).a < (stepC c id).a then [sibC c id] else []) ++ befN (stepC c id) id j
  | 0 => by
    show pushB (sibC c id) (stepC c id) [] = _
    unfold pushB befN
    split <;> rfl
  | j + 1 => by
    show pushB (sibC (wayC c id (j + 1)) id) (wayC c id (j + 2)) (befN c id (j + 1)) = _ ++ pushB (sibC (wayC (stepC c id) id j) id) (wayC (stepC c id) id (j + 1)) (befN (stepC c id) id j)
    rw [befN_front c id j, wayC_front c id j, wayC_front c id (j + 1)]
    unfold pushB
    split <;> simp
theorem aftN_front (c : Cv) (id : Int) : ∀ j, aftN c id (j + 1) = (if (sibC c id).a < (stepC c id).a then [] else [sibC c id]) ++ aftN (stepC c id) id j
  | 0 => by
    show pushA (sibC c id) (stepC c id) [] = _
    unfold pushA aftN
    split <;> rfl
  | j + 1 => by
    show pushA (sibC (wayC c id (j + 1)) id) (wayC c id (j + 2)) (aftN c id (j + 1)) = _ ++ pushA (sibC (wayC (stepC c id) id j) id) (wayC (stepC c id) id (j + 1)) (aftN (stepC c id) id j)
    rw [aftN_front c id j, wayC_front c id j, wayC_front c id (j + 1)]
    unfold pushA
    split <;> simp
theorem befN_L {id : Int} (h0 : 0 ≤ id) (h1 : id < 4096) : ∀ {n : Nat} {c : Cv}, CvOK c → c.d + n = 12 → befN c id n = befL n c id ∧ (aftN c id n).reverse = aftL n c id
  | 0, c, h, hd => ⟨rfl, rfl⟩
  | n + 1, c, h, hd => by
    obtain ⟨i1, i2⟩ := befN_L h0 h1 (n := n) (step_ok h (by omega) h0 h1) (by show c.d + 1 + (n : Int) = 12; omega)
    have hs := sib_lt h (by omega) h0 h1
    rw [befN_front, aftN_front, i1, List.reverse_append, i2]
    simp only [befL, aftL]
    by_cases e : sideN c id = 1
    · rw [if_pos (hs.2 e), if_pos e, if_pos (hs.2 e), if_pos e]; exact ⟨rfl, by simp⟩
    · rw [if_neg fun g => e (hs.1 g), if_neg e, if_neg fun g => e (hs.1 g), if_neg e]; exact ⟨rfl, by simp⟩
theorem befN_len (c : Cv) (id : Int) : ∀ j, (befN c id j).length ≤ j ∧ (aftN c id j).length ≤ j
  | 0 => ⟨Nat.le_refl _, Nat.le_refl _⟩
  | j + 1 => by
    have ih := befN_len c id j
    simp only [befN, aftN, pushB, pushA]
    split <;> simp <;> omega
theorem way1d_iter {c : Cv} (h : CvOK c) {id : Int} (h0 : 0 ≤ id) (h1 : id < 4096) {tm : List (Nat × AV)} {l : Nat} {q : Loop} (htd : distinct (keysOf tm) = true) (hfx : tmIn (under 4) tm = tm)
    (hY : ∀ n s c' b a, b.length ≤ 12 → a.length ≤ 12 → YFun C P (domR n tm l q) [2, 3, 6, 7] l [cvA s, cvA c'] (memY b a) (.v (.bool true)) (memZ (pushB s c' b) (pushA s c' a))) :
    FunE C P (extOf tm q.tmps) (some (l, q)) 4 F_way1 [ryld l, .ptr 0 [], .ptr 1 []] (memI c id 4 5 [] []) (.tup []) (memI (leafC c id) id 6 7 (befN c id (12 - c.d.toNat)) (aftN c id (12 - c.d.toNat))) := by
  refine inE_way1 (W := w_way1d) rfl 4 (by simp) rfl htd hfx fun n => ?_
  refine of_eq (way1d_A c id l 4 _) ?_
  refine loop_inv (W := w_way1d) ctx mixed ok_way1_0 (I_wd c id l) (fun j => j ≤ 12 - c.d.toNat) (fun j => 12 - c.d.toNat - j) 0 (Nat.zero_le _) ?_ fun j hj => ?_
  · exact ent_of [(0, 0), (1, 1), (2, 2), (3, 3), (4, 6), (5, 7)] rfl (tm_cons rfl (sm_same rfl) (tm_cons rfl (sm_ptr rfl) (tm_cons rfl (sm_ptr rfl) tm_nil))) (hp_cons rfl rfl (sm_same rfl) (hp_cons rfl rfl (sm_same rfl) (hp_cons rfl rfl (sm_sl rfl rfl (Nat.le_refl _) (Nat.le_refl _) (fun h => ⟨h, rfl⟩)) (hp_cons rfl rfl (sm_sl rfl rfl (Nat.le_refl _) (Nat.le_refl _) (fun h => ⟨h, rfl⟩)) (hp_cons rfl rfl (sm_same rfl) (hp_cons rfl rfl (sm_same rfl) hp_nil))))))
  have hw := wayC_ok h h0 h1 j hj
  have hd := wayC_d c id j
  have hc0 := h.1
  have hc1 := h.2.1
  obtain ⟨l1, l2⟩ := befN_len c id j
  refine of_eq (way1d_L0 c id l j 4 _) ⟨fun hlt => ?_, fun hge => ?_⟩
  · simp only [decide_eq_true_eq] at hlt
    obtain ⟨o1, o2, o3, o4⟩ := side_obl hw hlt h0 h1
    obtain ⟨b1, b2, _⟩ := below_side hw hlt h0 h1
    rw [rowCs_K, rowCs_K]
    exact ⟨o1, size_fun _ (by omega), trivial, o2, o3, by decide, o4, b2, ⟨trivial, trivial, fun _ _ => trivial, trivial⟩, shC_t, b1, ⟨trivial, trivial, fun _ _ => trivial, trivial⟩, shC_t, hY n _ _ _ _ (by omega) (by omega),
      round_end (j + 1) (by omega) (ent_of [(0, 0), (1, 1), (2, 2), (3, 3), (26, 6), (1026, 7)] rfl (tm_cons rfl (sm_same rfl) (tm_cons rfl (sm_ptr rfl) (tm_cons rfl (sm_ptr rfl) tm_nil))) (hp_cons rfl rfl (sm_same rfl) (hp_cons rfl rfl (sm_same rfl) (hp_cons rfl rfl (sm_sl rfl rfl (Nat.le_refl _) (Nat.le_refl _) (fun h => ⟨h, rfl⟩)) (hp_cons rfl rfl (sm_sl rfl rfl (Nat.le_refl _) (Nat.le_refl _) (fun h => ⟨h, rfl⟩)) (hp_cons rfl rfl (sm_same rfl) (hp_cons rfl rfl (sm_same rfl) hp_nil))))))) (by dsimp only; omega)⟩
  · simp only [decide_eq_false_iff_not] at hge
    obtain rfl : j = 12 - c.d.toNat := by omega
    exact funPost_of (S2 := { tm := [], hp := memI (leafC c id) id 6 7 (befN c id (12 - c.d.toNat)) (aftN c id (12 - c.d.toNat)), seen := [0, 1, 2, 3, 6, 7] }) (by simp) (ent_of [(0, 0), (1, 1), (2, 2), (3, 3), (6, 6), (7, 7)] rfl tm_nil (hp_cons rfl rfl (sm_same rfl) (hp_cons rfl rfl (sm_same rfl) (hp_cons rfl rfl (sm_sl rfl rfl (Nat.le_refl _) (Nat.le_refl _) (fun h => ⟨h, rfl⟩)) (hp_cons rfl rfl (sm_sl rfl rfl (Nat.le_refl _) (Nat.le_refl _) (fun h => ⟨h, rfl⟩)) (hp_cons rfl rfl (sm_same rfl) (hp_cons rfl rfl (sm_same rfl) hp_nil))))))) rfl (.inl ⟨rfl, rfl⟩) fun _ _ h => h
theorem push_row {b : List Cv} {s : Cv} (i : Nat) (hi : i < b.length + 1) : cat b.length (fun i1 => cvA (cAt b (0 + i1))) (fun i1 => nthD [cvA s] (0 + i1) (AV.v (Value.tuple (List.toArray [])))) i = cvA (cAt (b ++ [s]) i) := by
  rw [cAt_append]
  unfold cat
  by_cases e : i < b.length
  · rw [if_pos e, if_pos e]; show cvA (cAt b (0 + i)) = _; rw [Nat.zero_add]
  · rw [if_neg e, if_neg e, show i - b.length = 0 by omega]; rfl
theorem memY_id {b a : List Cv} {X : List (Nat × Blk)} (hX : ∀ id, look X id ≠ none → id < 2 ∨ 4 ≤ id) (id : Nat) (h : look (memY b a) id ≠ none) (h2 : look X id ≠ none) : id < 2 := by
  rcases hX id h2 with h3 | h3
  · exact h3
  · exfalso
    apply h
    simp only [look, beq_false (show (0 : Nat) ≠ id by omega), beq_false (show (1 : Nat) ≠ id by omega), beq_false (show (2 : Nat) ≠ id by omega), beq_false (show (3 : Nat) ≠ id by omega)]
theorem memZ_id (b a : List Cv) (id : Nat) (h : look (memZ b a) id ≠ none) : id < 2 ∨ 4 ≤ id := by
  refine Classical.byContradiction fun hc => h ?_
  simp only [look, beq_false (show (0 : Nat) ≠ id by omega), beq_false (show (1 : Nat) ≠ id by omega), beq_false (show (4 : Nat) ≠ id by omega), beq_false (show (5 : Nat) ≠ id by omega)]
theorem desb (x i : Int) {la : Nat} {q : Loop} (hq : RecOf 58 #[27, 28] asg_destroy_0 rbd_destroy_0 q) (n : Nat) (s c : Cv) (b a : List Cv) (hb : b.length ≤ 12) (ha : a.length ≤ 12) :
    YFun C P (domR n (tmDes x i) la q) [2, 3, 6, 7] la [cvA s, cvA c] (memY b a) (.v (.bool true)) (memZ (pushB s c b) (pushA s c a)) := by
  refine body_ok ctx mixed (W := w_destroy) (k := 2) (p1 := []) (p2 := []) hq oka_destroy_0 okr_destroy_0 rfl (fun p hp => ?_) (memY_id (memZ_id _ _)) rfl fun m => ?_
  · simp at hp; rcases hp with rfl | rfl <;> exact (by decide)
  refine of_eq (destroy_B0 x i s c b a 2 _) ⟨shC_t, shC_t, fun h => ⟨by omega, rfl, { tm := [], hp := memZ (pushB s c b) (pushA s c a), seen := [0, 1, 4, 5] }, ?_, fun _ _ h => h⟩, fun h => ⟨by omega, rfl, { tm := [], hp := memZ (pushB s c b) (pushA s c a), seen := [0, 1, 4, 5] }, ?_, fun _ _ h => h⟩⟩
  · have h := of_decide_eq_true h
    rw [show pushB s c b = b ++ [s] by unfold pushB; rw [if_pos h], show pushA s c a = a by unfold pushA; rw [if_pos h]]
    have hl : b.length + 1 = (b ++ [s]).length := by simp
    intro D
    exact ent_of [(0, 0), (1, 1), (37, 4), (3, 5)] rfl tm_nil (hp_cons rfl rfl (sm_sl (ex := false) (ex' := false) rfl hl (Nat.le_of_eq hl) (Nat.le_of_eq hl.symm) (by simp)) (hp_cons rfl rfl (sm_sl rfl rfl (Nat.le_refl _) (Nat.le_refl _) (fun h => ⟨h, rfl⟩)) (hp_cons rfl rfl (sm_arr' hl fun i hi => push_row i hi) (hp_cons rfl rfl (sm_same rfl) hp_nil))))
  · have h := of_decide_eq_false h
    rw [show pushB s c b = b by unfold pushB; rw [if_neg h], show pushA s c a = a ++ [s] by unfold pushA; rw [if_neg h]]
    have hl : a.length + 1 = (a ++ [s]).length := by simp
    intro D
    exact ent_of [(0, 0), (1, 1), (2, 4), (41, 5)] rfl tm_nil (hp_cons rfl rfl (sm_sl rfl rfl (Nat.le_refl _) (Nat.le_refl _) (fun h => ⟨h, rfl⟩)) (hp_cons rfl rfl (sm_sl (ex := false) (ex' := false) rfl hl (Nat.le_of_eq hl) (Nat.le_of_eq hl.symm) (by simp)) (hp_cons rfl rfl (sm_same rfl) (hp_cons rfl rfl (sm_arr' hl fun i hi => push_row i hi) hp_nil))))
theorem toCs_dat {n : Nat} {ex : Bool} {e : Nat} {g : Nat → AV} {l : List Cv} (hn : n = l.length) (hg : ∀ i, i < n → toCv (g i) = cAt l i) : toCs (.dat n ex e g) = l := by
  subst hn
  unfold toCs
  apply List.ext_getElem
  · simp
  · intro i h1 h2
    simp only [List.getElem_map, List.getElem_range]
    rw [hg i h2]
    unfold cAt
    rw [List.getD_eq_getElem?_getD, List.getElem?_eq_getElem h2]; rfl
theorem cAt_take {l : List Cv} {n i : Nat} (h : i < n) : cAt (l.take n) i = cAt l i := by
  unfold cAt
  simp only [List.getD_eq_getElem?_getD]
  rw [List.getElem?_take_of_lt h]
theorem cAt_drop {l : List Cv} {n i : Nat} : cAt (l.drop n) i = cAt l (n + i) := by
  unfold cAt
  simp only [List.getD_eq_getElem?_getD, List.getElem?_drop]
theorem des_split {l : List Cv} (hv : VL l) {x : Int} (h : hasB l x = true) : findI l x < l.length ∧ stB (cAt l (findI l x)) x = true ∧
    desL l x = l.take (findI l x) ++ (befL (12 - (cAt l (findI l x)).d.toNat) (cAt l (findI l x)) x ++ aftL (12 - (cAt l (findI l x)).d.toNat) (cAt l (findI l x)) x) ++ l.drop (findI l x + 1) := by
  obtain ⟨i, hi, hst⟩ := (has_iff hv).1 h
  have hf := (at_hit hv hi hst).2
  rw [hf]
  refine ⟨hi, hst, ?_⟩
  have no : ∀ k, k < l.length → k ≠ i → stB (cAt l k) x = false := fun k hk hne => Bool.eq_false_iff.2 fun hh => hne (by rw [← (at_hit hv hk hh).2, hf])
  have e : l = l.take i ++ (cAt l i :: l.drop (i + 1)) := by rw [← drop_at hi, List.take_append_drop]
  unfold desL
  rw [if_pos h]
  conv => lhs; rw [e]
  rw [desF_append, desF_none (l := l.take i) fun e he => ?_]
  · rw [show cAt l i :: l.drop (i + 1) = [cAt l i] ++ l.drop (i + 1) from rfl, desF_append, desF_none (l := l.drop (i + 1)) fun e he => ?_]
    · unfold desF
      rw [List.flatMap_cons, hst]; simp
    · obtain ⟨k, hk, rfl⟩ := List.getElem_of_mem he
      have := no (i + 1 + k) (by simp at hk; omega) (by omega)
      rw [List.getElem_drop]
      unfold cAt at this
      rwa [List.getD_eq_getElem?_getD, List.getElem?_eq_getElem (by simp at hk; omega)] at this
  · obtain ⟨k, hk, rfl⟩ := List.getElem_of_mem he
    have := no k (by simp at hk; omega) (by simp at hk; omega)
    rw [List.getElem_take]
    unfold cAt at this
    rwa [List.getD_eq_getElem?_getD, List.getElem?_eq_getElem (by simp at hk; omega)] at this
theorem dK_id (id : Nat) (c : Cv) (x : Int) (h : look (memI c x 4 5 [] []) id ≠ none) {c' : Cv} {b a : List Cv} (h2 : look (memI c' x 6 7 b a) id ≠ none) : id < 4 := by
  refine Classical.byContradiction fun hc => ?_
  by_cases e6 : id = 6 ∨ id = 7
  · apply h; unfold memI
    simp only [look, beq_false (show (0 : Nat) ≠ id by omega), beq_false (show (1 : Nat) ≠ id by omega), beq_false (show (2 : Nat) ≠ id by omega), beq_false (show (3 : Nat) ≠ id by omega), beq_false (show (4 : Nat) ≠ id by omega), beq_false (show (5 : Nat) ≠ id by omega)]
  · apply h2; unfold memI
    simp only [look, beq_false (show (0 : Nat) ≠ id by omega), beq_false (show (1 : Nat) ≠ id by omega), beq_false (show (2 : Nat) ≠ id by omega), beq_false (show (3 : Nat) ≠ id by omega), beq_false (show (6 : Nat) ≠ id by omega), beq_false (show (7 : Nat) ≠ id by omega)]
theorem destroy_fun (ex : Bool) (l : List Cv) (x : Int) (hn : l.length < 2 ^ 30) (hv : VL l) : Fun C P F_destroy [ksA ex l, .i x] [] (ksA false (desL l x)) [] := by
  refine inR_destroy (W := w_destroy) rfl 0 (by simp) rfl (fun id h => absurd rfl h) fun n => ?_
  refine of_eq (destroy_A ex l x 0 _) ?_
  rw [toKs_A]
  refine ⟨find_fun ex l x (by omega) hv, fun h3 => ?_, fun h3 => ?_⟩
  · have h3 := bnt h3
    rw [show desL l x = l by unfold desL; rw [h3]; rfl]
    exact ⟨⟨⟨rfl, rfl⟩, trivial⟩, post_cell rfl rfl (sm_st (sms_cons (sm_dat (by simp) fun _ _ => rfl) sms_nil)) rfl⟩
  have h3 := bnf h3
  have hin : inR x = true := by unfold hasB at h3; rw [Bool.and_eq_true] at h3; exact h3.1
  obtain ⟨hf, _, hdes⟩ := des_split hv h3
  rw [if_pos hin, Int.toNat_natCast]
  have hx : 0 ≤ x ∧ x < 4096 := by simpa [inR] using hin
  obtain ⟨i, hi⟩ : ∃ i, i = findI l x := ⟨_, rfl⟩
  rw [← hi] at hf hdes ⊢
  obtain ⟨c, hc⟩ : ∃ c, c = cAt l i := ⟨_, rfl⟩
  have hok : CvOK c := by rw [hc]; exact hv.1 _ hf
  have hcd : c.d + ((12 - c.d.toNat : Nat) : Int) = 12 := by have := hok.1; have := hok.2.1; omega
  obtain ⟨e1, e2⟩ := befN_L hx.1 hx.2 hok hcd
  rw [← hc] at hdes ⊢
  rw [← e1, ← e2] at hdes
  obtain ⟨b, hb⟩ : ∃ b, b = befN c x (12 - c.d.toNat) := ⟨_, rfl⟩
  obtain ⟨a, ha⟩ : ∃ a, a = aftN c x (12 - c.d.toNat) := ⟨_, rfl⟩
  have hlen := befN_len c x (12 - c.d.toNat)
  rw [← hb, ← ha] at hdes hlen
  refine ⟨(by first | omega | decide | (unfold I64; omega)), way_fun c x, RngOK.ent (S1 := S_des1 ex l x i c) (ent_of [(2, 2), (4, 4), (7, 7), (8, 8), (26, 26), (1026, 1026)] rfl (tm_cons rfl (sm_same rfl) (tm_cons rfl (sm_ptr rfl) (tm_cons rfl (sm_ptr rfl) (tm_cons rfl (sm_same rfl) (tm_cons rfl (sm_ptr rfl) (tm_cons rfl (sm_ptr rfl) (tm_cons rfl (sm_fn (sms_cons (sm_ptr rfl) (sms_cons (sm_ptr rfl) sms_nil))) tm_nil))))))) (hp_cons rfl rfl (sm_same rfl) (hp_cons rfl rfl (sm_same rfl) (hp_cons rfl rfl (sm_nil rfl rfl) (hp_cons rfl rfl (sm_nil rfl rfl) (hp_cons rfl rfl (sm_same rfl) (hp_new rfl rfl (hp_new rfl rfl (hp_cons rfl rfl (sm_same rfl) hp_nil)))))))))
    (rng_at (D := { base := n }) rfl rfl st_destroy_0 (S2 := S_desr ex l i b a) rfl Proofs.Tryd.func53 nm_way1 ng_way1 [26, 1026, 7, 8, 100, 101] (args' := [.ptr 0 [], .ptr 1 []]) (H := memI c x 4 5 [] [])
      (H' := memI (leafC c x) x 6 7 b a) (r := .tup []) (e := { v := .tup [], wr := [(0, .c (arK b)), (7, .c (slK 0 b)), (8, .c (slK 1000 a)), (26, .c (cvA (leafC c x))), (1000, .c (arK a)), (1026, .c (.i x))], dead := [100, 101], rd := [26, 1026, 7, 8, 100, 101] }) (tmL := tmDes x i) rfl
      (by kernel_rfl) (by kernel_rfl) (by kernel_rfl) (by kernel_rfl) (by kernel_rfl) (by kernel_rfl) (fun la q hq => by rw [hb, ha]; exact way1d_iter hok hx.1 hx.2 rfl (by kernel_rfl) fun n s c' b a h1 h2 => desb _ _ hq n s c' b a h1 h2) (fun id h h2 => dK_id id c x h h2) (by kernel_rfl)
      (ent_of [(2, 2), (4, 4), (7, 7), (8, 8), (0, 100), (1000, 101)] rfl (tm_cons rfl (sm_ptr rfl) (tm_cons rfl (sm_ptr rfl) (tm_cons rfl (sm_same rfl) (tm_cons rfl (sm_ptr rfl) (tm_cons rfl (sm_ptr rfl) tm_nil))))) (hp_cons rfl rfl (sm_same rfl) (hp_cons rfl rfl (sm_same rfl) (hp_cons rfl rfl (sm_sl rfl rfl (Nat.le_refl _) (Nat.le_refl _) (fun h => ⟨h, rfl⟩)) (hp_cons rfl rfl (sm_sl rfl rfl (Nat.le_refl _) (Nat.le_refl _) (fun h => ⟨h, rfl⟩)) (hp_cons rfl rfl (sm_same rfl) (hp_cons rfl rfl (sm_same rfl) hp_nil))))))) ?_)⟩
  refine of_eq (destroy_R0 ex l i b a 0 _) ?_
  rw [rowCs_K]
  have hfl : ∀ (f : Nat → AV), f = (fun (i1 : Nat) => (nthD [(AV.dat i false 34 (fun (i2 : Nat) => (cvA (cAt l (0 + i2))))), (AV.dat (List.length b) false 34 (fun (i2 : Nat) => (cvA (cAt b (0 + i2))))), (AV.dat (List.length a) false 34 (fun (i2 : Nat) => (cvA (cAt (List.reverse a) (0 + i2))))), (AV.dat ((List.length l) - (i + 1)) ex 34 (fun (i2 : Nat) => (cvA (cAt l ((i + 1) + i2)))))] (0 + i1) (AV.v (Value.tuple (List.toArray []))))) →
      (lists 4 f).flatten = desL l x ∧ CParts 4 f := fun f hf' => by
    subst hf'
    constructor
    · show [toCs _, toCs _, toCs _, toCs _].flatten = _
      rw [hdes]
      show [toCs (AV.dat i false 34 (fun (i2 : Nat) => (cvA (cAt l (0 + i2))))), toCs (AV.dat (List.length b) false 34 (fun (i2 : Nat) => (cvA (cAt b (0 + i2))))), toCs (AV.dat (List.length a) false 34 (fun (i2 : Nat) => (cvA (cAt (List.reverse a) (0 + i2))))), toCs (AV.dat ((List.length l) - (i + 1)) ex 34 (fun (i2 : Nat) => (cvA (cAt l ((i + 1) + i2)))))].flatten = _
      rw [toCs_dat (l := l.take i) (by simp; omega) fun j hj => by rw [Nat.zero_add, cAt_take hj]; rfl, toCs_dat (l := b) rfl fun j hj => by rw [Nat.zero_add]; rfl, toCs_dat (l := a.reverse) (by simp) fun j hj => by rw [Nat.zero_add]; rfl, toCs_dat (l := l.drop (i + 1)) (by simp) fun j hj => by rw [cAt_drop]; rfl]
      simp
    · intro k hk
      match k, hk with
      | 0, _ => exact ⟨_, _, _, _, rfl, .inr rfl, fun j hj => rfl⟩
      | 1, _ => exact ⟨_, _, _, _, rfl, .inr rfl, fun j hj => rfl⟩
      | 2, _ => exact ⟨_, _, _, _, rfl, .inr rfl, fun j hj => rfl⟩
      | 3, _ => exact ⟨_, _, _, _, rfl, .inr rfl, fun j hj => rfl⟩
  obtain ⟨f1, f2⟩ := hfl _ rfl
  have hdl : (desL l x).length < 2 ^ 40 := by rw [hdes]; simp; omega
  have hcc := concat_call (ex := false) f2 (.inr rfl) (by decide) (by rw [f1]; exact hdl)
  rw [f1] at hcc ⊢
  refine ⟨rev_fun a (by omega), (by first | omega | decide | (unfold I64; omega)), (by first | omega | decide | (unfold I64; omega)), (by first | omega | decide | (unfold I64; omega)), hcc, ⟨⟨rfl, rfl⟩, trivial⟩, post_frz [56] ?_⟩
  exact post_cell rfl rfl (sm_st (sms_cons (sm_dat (by simp) fun j hj => by show cvA (cAt (desL l x) (0 + j)) = _; rw [Nat.zero_add]) sms_nil)) rfl
theorem bef_succ {c : Cv} {id : Int} {j : Nat} (hw : CvOK (wayC c id j)) (hd : (wayC c id j).d < 12) (h0 : 0 ≤ id) (h1 : id < 4096) :
    (sideI (wayC c id j) id = 1 → befN c id (j + 1) = befN c id j ++ [chC (wayC c id j) 0] ∧ aftN c id (j + 1) = aftN c id j) ∧
    (sideI (wayC c id j) id ≠ 1 → befN c id (j + 1) = befN c id j ∧ aftN c id (j + 1) = aftN c id j ++ [chC (wayC c id j) 1]) := by
  obtain ⟨e, hlt⟩ := side_nat hw hd h0 h1
  have hs := sib_lt hw hd h0 h1
  have u1 : befN c id (j + 1) = pushB (sibC (wayC c id j) id) (stepC (wayC c id j) id) (befN c id j) := rfl
  have u2 : aftN c id (j + 1) = pushA (sibC (wayC c id j) id) (stepC (wayC c id j) id) (aftN c id j) := rfl
  rw [u1, u2]
  unfold pushB pushA
  constructor
  · intro h
    have h2 : (sibC (wayC c id j) id).a < (stepC (wayC c id j) id).a := hs.2 (by omega)
    rw [if_pos h2, if_pos h2]
    refine ⟨?_, rfl⟩
    unfold sibC; rw [h]; rfl
  · intro h
    have h2 : ¬ (sibC (wayC c id j) id).a < (stepC (wayC c id j) id).a := fun g => h (by rw [e, hs.1 g]; rfl)
    rw [if_neg h2, if_neg h2]
    refine ⟨rfl, ?_⟩
    unfold sibC
    rw [show sideI (wayC c id j) id = 0 by omega]; rfl
theorem rdestroy_fun (ex : Bool) (l : List Cv) (x : Int) (hn : l.length < 2 ^ 30) (hv : VL l) : Fun C P F_rdestroy [ksA ex l, .i x] [] (ksA false (desL l x)) [] := by
  refine in_rdestroy (W := w_rdestroy) rfl 0 (by simp) rfl (fun id h => absurd rfl h) fun D => ?_
  refine of_eq (rdestroy_A ex l x 0 _) ?_
  rw [toKs_A]
  refine ⟨rfind_fun ex l x (by omega) hv, trivial, fun h3 => ?_, fun h3 => ?_⟩
  · have h3 : hasB l x = false := by
      simp only [decide_eq_true_eq] at h3
      unfold atI at h3
      split at h3
      · omega
      · rename_i g; simpa using g
    rw [show desL l x = l by unfold desL; rw [h3]; rfl]
    exact ⟨⟨⟨rfl, rfl⟩, trivial⟩, post_cell rfl rfl (sm_st (sms_cons (sm_dat (by simp) fun _ _ => rfl) sms_nil)) rfl⟩
  have h3 : hasB l x = true := by
    simp only [decide_eq_false_iff_not] at h3
    unfold atI at h3
    split at h3
    · assumption
    · omega
  have hin : inR x = true := by unfold hasB at h3; rw [Bool.and_eq_true] at h3; exact h3.1
  obtain ⟨hf, _, hdes⟩ := des_split hv h3
  rw [show atI l x = (findI l x : Nat) by unfold atI; rw [h3]; rfl, Int.toNat_natCast]
  have hx : 0 ≤ x ∧ x < 4096 := by simpa [inR] using hin
  obtain ⟨i, hi⟩ : ∃ i, i = findI l x := ⟨_, rfl⟩
  rw [← hi] at hf hdes ⊢
  obtain ⟨c, hc⟩ : ∃ c, c = cAt l i := ⟨_, rfl⟩
  have hok : CvOK c := by rw [hc]; exact hv.1 _ hf
  have hcd : c.d + ((12 - c.d.toNat : Nat) : Int) = 12 := by have := hok.1; have := hok.2.1; omega
  obtain ⟨e1, e2⟩ := befN_L hx.1 hx.2 hok hcd
  rw [← hc] at hdes ⊢
  rw [← e1, ← e2] at hdes
  refine ⟨(by first | omega | decide | (unfold I64; omega)), shC_t, loop_inv (W := w_rdestroy) ctx mixed ok_rdestroy_0 (I_rd ex l c x i) (fun j => j ≤ 12 - c.d.toNat) (fun j => 12 - c.d.toNat - j) 0 (Nat.zero_le _) ?_ fun j hj => ?_⟩
  · exact ent_of [(2, 2), (4, 4), (17, 6), (18, 7), (8, 8)] rfl (tm_cons rfl (sm_same rfl) (tm_cons rfl (sm_ptr rfl) (tm_cons rfl (sm_ptr rfl) (tm_cons rfl (sm_same rfl) (tm_cons rfl (sm_sl rfl rfl (Nat.le_refl _) (Nat.le_refl _) (by simp)) (tm_cons rfl (sm_sl rfl rfl (Nat.le_refl _) (Nat.le_refl _) (by simp)) (tm_cons rfl (sm_ptr rfl) tm_nil)))))))
      (hp_cons rfl rfl (sm_same rfl) (hp_cons rfl rfl (sm_same rfl) (hp_cons rfl rfl (sm_row rfl rfl rfl (fun i x hx => by cases i <;> cases hx)) (hp_cons rfl rfl (sm_row rfl rfl rfl (fun i x hx => by cases i <;> cases hx)) (hp_cons rfl rfl (sm_same rfl) hp_nil)))))
  have hw := wayC_ok hok hx.1 hx.2 j hj
  have hd := wayC_d c x j
  have hc0 := hok.1
  have hc1 := hok.2.1
  have hl := befN_len c x j
  have hrl : (aftN c x j).reverse.length = (aftN c x j).length := by simp
  refine of_eq (rdestroy_L0 ex l c x i j 0 _) ⟨fun hlt => ?_, fun hge => ?_⟩
  · simp only [decide_eq_true_eq] at hlt
    obtain ⟨s1, s2⟩ := bef_succ hw hlt hx.1 hx.2
    have hst := (below_side hw hlt hx.1 hx.2).2.2
    refine ⟨side_fun _ hw hlt x hx.1 hx.2, trivial, fun h => ?_, fun h => ?_⟩
    · obtain ⟨s3, s4⟩ := s1 (by simpa using h)
      have hlen : (befN c x j).length + 1 = (befN c x (j + 1)).length := by rw [s3]; simp
      have ha : (aftN c x j).reverse = (aftN c x (j + 1)).reverse := by rw [s4]
      refine ⟨follow_fun _ hw 0 (by decide), ⟨trivial, trivial, fun _ _ => trivial, trivial⟩, by omega, hst, ⟨trivial, trivial, fun _ _ => trivial, trivial⟩, shC_t, round_end (j + 1) (by omega) ?_ (by dsimp only; omega)⟩
      rw [ha]
      exact ent_of [(2, 2), (4, 4), (36, 6), (7, 7), (8, 8)] rfl (tm_cons rfl (sm_same rfl) (tm_cons rfl (sm_ptr rfl) (tm_cons rfl (sm_ptr rfl) (tm_cons rfl (sm_same rfl) (tm_cons rfl (sm_sl (ex := false) (ex' := false) rfl hlen (Nat.le_of_eq hlen) (Nat.le_of_eq hlen.symm) (by simp)) (tm_cons rfl (sm_sl rfl rfl (Nat.le_refl _) (Nat.le_refl _) (fun h => ⟨h, rfl⟩)) (tm_cons rfl (sm_ptr rfl) tm_nil))))))) (hp_cons rfl rfl (sm_same rfl) (hp_cons rfl rfl (sm_same rfl) (hp_cons rfl rfl (sm_arr' hlen (fun k hk => by rw [s3]; exact push_row k hk)) (hp_cons rfl rfl (sm_same rfl) (hp_cons rfl rfl (sm_same rfl) hp_nil)))))
    · obtain ⟨s3, s4⟩ := s2 (by simpa using h)
      have hlen : 1 + (aftN c x j).reverse.length = (aftN c x (j + 1)).reverse.length := by rw [s4]; simp; omega
      refine ⟨follow_fun _ hw 1 (by decide), ⟨trivial, trivial, fun _ _ => trivial, trivial⟩, by omega, hst, ⟨trivial, trivial, fun _ _ => trivial, trivial⟩, shC_t, round_end (j + 1) (by omega) ?_ (by dsimp only; omega)⟩
      rw [← s3]
      refine ent_of [(2, 2), (4, 4), (6, 6), (41, 7), (8, 8)] rfl (tm_cons rfl (sm_same rfl) (tm_cons rfl (sm_ptr rfl) (tm_cons rfl (sm_ptr rfl) (tm_cons rfl (sm_same rfl) (tm_cons rfl (sm_sl rfl rfl (Nat.le_refl _) (Nat.le_refl _) (fun h => ⟨h, rfl⟩)) (tm_cons rfl (sm_sl (ex := false) (ex' := false) rfl hlen (Nat.le_of_eq hlen) (Nat.le_of_eq hlen.symm) (by simp)) (tm_cons rfl (sm_ptr rfl) tm_nil))))))) (hp_cons rfl rfl (sm_same rfl) (hp_cons rfl rfl (sm_same rfl) (hp_cons rfl rfl (sm_same rfl) (hp_cons rfl rfl (sm_arr' hlen (fun k hk => ?_)) (hp_cons rfl rfl (sm_same rfl) hp_nil)))))
      rw [s4, List.reverse_append]
      show _ = cvA (cAt ([chC (wayC c x j) 1] ++ (aftN c x j).reverse) k)
      rw [cAt_append]
      unfold cat
      by_cases e : k < 1
      · rw [if_pos e, if_pos (show k < [chC (wayC c x j) 1].length from e), show k = 0 by omega]; rfl
      · rw [if_neg e, if_neg (show ¬ k < [chC (wayC c x j) 1].length from e)]; show cvA (cAt (aftN c x j).reverse (0 + (k - 1))) = _; rw [Nat.zero_add]; rfl
  · simp only [decide_eq_false_iff_not] at hge
    obtain rfl : j = 12 - c.d.toNat := by omega
    obtain ⟨b, hb⟩ : ∃ b, b = befN c x (12 - c.d.toNat) := ⟨_, rfl⟩
    obtain ⟨a, ha⟩ : ∃ a, a = (aftN c x (12 - c.d.toNat)).reverse := ⟨_, rfl⟩
    rw [← ha] at hrl
    rw [← hb] at hl
    rw [← hb, ← ha] at hdes ⊢
    refine ⟨(by first | omega | decide | (unfold I64; omega)), by omega, by omega, by omega, (by first | omega | decide | (unfold I64; omega)), (by first | omega | decide | (unfold I64; omega)), by omega, ⟨⟨rfl, rfl⟩, trivial⟩, post_frz [63] ?_⟩
    refine post_cell rfl rfl (sm_st (sms_cons (sm_dat' (by rw [hdes]; simp; omega) (by simp) fun k hk => ?_) sms_nil)) rfl
    rw [hdes]
    have hmin : min i l.length = i := Nat.min_eq_left (by omega)
    show (cat _ (fun _ => cat _ (fun _ => cat _ (fun _ => cvA (cAt l _)) (fun _ => cvA (cAt b _)) _) (fun _ => cvA (cAt a _)) _) (fun _ => cvA (cAt l _)) _ : AV) = cvA (cAt _ k)
    unfold cat
    simp only [Nat.zero_add, cAt_append, List.length_append, List.length_take, hmin]
    by_cases q1 : k < i
    · rw [if_pos (by omega), if_pos (by omega), if_pos q1, if_pos (by omega), if_pos q1, cAt_take q1]
    · by_cases q2 : k < i + b.length
      · rw [if_pos (by omega), if_pos q2, if_neg q1, if_pos (by omega), if_neg q1, if_pos (by omega)]
      · by_cases q3 : k < i + b.length + a.length
        · rw [if_pos q3, if_neg q2, if_pos (by omega), if_neg q1, if_neg (by omega)]
          congr 2; omega
        · rw [if_neg q3, if_neg (by omega), cAt_drop]
          congr 2; omega
end Go.Bu.W

