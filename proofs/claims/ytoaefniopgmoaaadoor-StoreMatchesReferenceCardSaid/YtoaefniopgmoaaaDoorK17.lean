/- Cells, jobs and disks as the machine has them. -/
import Derived.Test.YtoaefniopgmoaaaDoorK16
import Derived.Test.YtoaefniopgmoaaaDoorK14
import Derived.Test.YtoaefniopgmoaaaDoorK13
namespace Go.Bu.W
open Sp
abbrev hA (k : Nat → Nat) : AV := .arr 32 1 (fun i => u8 (k i))
abbrev clA (c : Cl) : AV := .st [.i c.i, .i c.s, .dat c.b.length false 1 (rowL c.b), hA c.h]
def clAt (l : List Cl) (i : Nat) : Cl := l.getD i cl0
def jbAt (l : List Jb) (i : Nat) : Jb := l.getD i jb0
abbrev csA (ex : Bool) (l : List Cl) : AV := .dat l.length ex 35 (fun i => clA (clAt l i))
abbrev jbA (j : Jb) : AV := .st [.sb j.dr, clA j.c]
abbrev jsA (ex : Bool) (l : List Jb) : AV := .dat l.length ex 36 (fun i => jbA (jbAt l i))
abbrev dkA (ex ey : Bool) (d : Dk) : AV := .st [csA ex d.l, jsA ey d.q]
def toCl : AV → Cl
 | .st [x, y, .dat n _ _ f, .arr _ _ g] => ⟨asI x, asI y, bytesL n f, dN g⟩
 | _ => cl0
def toCls : AV → List Cl
 | .dat n _ _ f => (List.range n).map fun i => toCl (f i)
 | _ => []
def toJb : AV → Jb
 | .st [x, y] => ⟨asB x, toCl y⟩
 | _ => jb0
def toJbs : AV → List Jb
 | .dat n _ _ f => (List.range n).map fun i => toJb (f i)
 | _ => []
def toDk : AV → Dk
 | .st [x, y] => ⟨toCls x, toJbs y⟩
 | _ => ⟨[], []⟩
theorem toCl_A (c : Cl) : toCl (clA c) = c := by
 show Cl.mk (asI (.i c.i)) (asI (.i c.s)) (bytesL c.b.length (rowL c.b)) (dN fun i => u8 (c.h i)) = c
 rw [bytesL_row]; rfl
theorem toCls_A (ex : Bool) (l : List Cl) : toCls (csA ex l) = l := by
 show (List.range l.length).map (fun i => toCl (clA (clAt l i))) = l
 apply List.ext_getElem
 ·simp
 ·intro i h1 h2
  simp only [List.getElem_map, List.getElem_range, toCl_A]
  simp [clAt, List.getD_eq_getElem?_getD, List.getElem?_eq_getElem h2]
theorem toJb_A (j : Jb) : toJb (jbA j) = j := by
 show Jb.mk j.dr (toCl (clA j.c)) = j
 rw [toCl_A]
theorem toJbs_A (ex : Bool) (l : List Jb) : toJbs (jsA ex l) = l := by
 show (List.range l.length).map (fun i => toJb (jbA (jbAt l i))) = l
 apply List.ext_getElem
 ·simp
 ·intro i h1 h2
  simp only [List.getElem_map, List.getElem_range, toJb_A]
  simp [jbAt, List.getD_eq_getElem?_getD, List.getElem?_eq_getElem h2]
theorem toDk_A (ex ey : Bool) (d : Dk) : toDk (dkA ex ey d) = d := by
 show Dk.mk (toCls (csA ex d.l)) (toJbs (jsA ey d.q)) = d
 rw [toCls_A, toJbs_A]
end Go.Bu.W
namespace Go.Bu.W
open Sp
def num2 (c : Cl) (k : Nat) : Int := if k = 0 then c.i else c.s
def cmpZ (a b : Int) : Int := if a < b then -1 else if b < a then 1 else 0
def cmpC (a b : Cl) : Int := if cmpZ a.i b.i = 0 then cmpZ a.s b.s else cmpZ a.i b.i
def crIn : List AV → Option (AV × List (Nat × Blk))
 | [x] => some (.sb (inRng (toCl x).i (toCl x).s), [])
 | _ => none
def crWhole : List AV → Option (AV × List (Nat × Blk))
 | [x] => some (.sb (whC (toCl x)), [])
 | _ => none
def crNumber : List AV → Option (AV × List (Nat × Blk))
 | [x] => some (.arr 2 1 (fun k => .i (num2 (toCl x) k)), [])
 | _ => none
def crCcmp : List AV → Option (AV × List (Nat × Blk))
 | [x, y] => some (.i (cmpZ (asI x) (asI y)), [])
 | _ => none
def crCmpI : List AV → Option (AV × List (Nat × Blk))
 | [.dat _ _ _ f, .dat _ _ _ g] => some (.i (if cmpZ (asI (f 0)) (asI (g 0)) = 0 then cmpZ (asI (f 1)) (asI (g 1)) else cmpZ (asI (f 0)) (asI (g 0))), [])
 | _ => none
def crCompare : List AV → Option (AV × List (Nat × Blk))
 | [x, y] => some (.i (cmpC (toCl x) (toCl y)), [])
 | _ => none
def crS1 (g : Nat) (args : List AV) (H : List (Nat × Blk)) : Option (AV × List (Nat × Blk)) :=
 sel (Nat.beq g F_inrange) (crIn args) <| sel (Nat.beq g F_whole) (crWhole args) <| sel (Nat.beq g F_rwhole) (crWhole args) <|
 sel (Nat.beq g F_number) (crNumber args) <| sel (Nat.beq g F_ccmp) (crCcmp args) <| sel (Nat.beq g F_isnan) (some (.sb false, [])) <|
 sel (Nat.beq g F_cmpI) (crCmpI args) <| sel (Nat.beq g F_compare) (crCompare args) <| crRS g args H
def wayA (keep : List Nat) (nt : Nat) (cuts : List Nat) : Way := ⟨crS1, fun _ => false, keep, [], nt, cuts, []⟩
def w_inrange : Way := wayA [0, 1, 2] 21 []
def w_whole : Way := wayA [0, 1, 2] 9 []
def w_rwhole : Way := wayA [0, 1, 2] 9 []
def w_number : Way := wayA [0, 1, 2] 8 []
def w_ccmp : Way := wayA [0, 1, 4, 5, 6, 11, 12, 13, 16, 19] 20 []
def w_isnan : Way := wayA [0, 2] 6 []
def w_cmpI : Way := wayA [0, 1, 4, 5, 6, 7, 8, 9, 10, 11, 12, 19, 28, 35] 36 []
def w_compare : Way := wayA [0, 1, 2, 3, 4, 5, 6] 14 []
def w_perf1 : Way := wayA [0, 1, 2, 3] 10 []
def w_cont1 : Way := wayA [2] 3 []
def w_crash1 : Way := wayA [0, 1, 3] 14 []
def w_rproper : Way := wayA [0, 1, 2] 27 []
def w_rbefore : Way := wayA [0, 1, 2, 3, 4] 24 []
abbrev p2 (ex : Bool) (a b : Int) : AV := .dat 2 ex 1 (fun k => .i (if k = 0 then a else b))
def I_cm (ex ey : Bool) (a b x y : Int) (i : Nat) : St := { tm := [(0, p2 ex a b), (1, p2 ey x y), (9, p2 ex a b), (10, .i 2), (11, .i i)], hp := [], seen := [] }
abbrev bA (ex : Bool) (l : List Bool) : AV := .dat l.length ex 1 (fun i => .sb (l.getD i false))
set_option maxRecDepth 1000000 in
theorem inrange_A (c : Cl) {D : Dom} (K : Nat) (Φ : Ex → St → Prop) :
 (Holds C P 21 D K Φ (vc C w_inrange b_inrange [] (start [clA c] []) lf)) =
 (((decide ((Cl.i c) ≥ (0 : Int))) = true →
 (((decide ((Cl.i c) < (4096 : Int))) = true →
 (((decide ((Cl.s c) ≥ (0 : Int))) = true →
 (Φ Ex.ret (St.mk [(0, (clA c)), (1, (AV.ptr 1 [])), (2, (AV.sb (decide ((Cl.s c) < (12 : Int)))))] [(1, (Blk.c (clA c)))] [1]))) ∧
 ((decide ((Cl.s c) ≥ (0 : Int))) = false →
 (Φ Ex.ret (St.mk [(0, (clA c)), (1, (AV.ptr 1 [])), (2, (AV.v (Value.bool false)))] [(1, (Blk.c (clA c)))] [1]))))) ∧
 ((decide ((Cl.i c) < (4096 : Int))) = false →
 (Φ Ex.ret (St.mk [(0, (clA c)), (1, (AV.ptr 1 [])), (2, (AV.v (Value.bool false)))] [(1, (Blk.c (clA c)))] [1]))))) ∧
 ((decide ((Cl.i c) ≥ (0 : Int))) = false →
 (Φ Ex.ret (St.mk [(0, (clA c)), (1, (AV.ptr 1 [])), (2, (AV.v (Value.bool false)))] [(1, (Blk.c (clA c)))] [1])))) := by kernel_rfl
theorem whole_A (c : Cl) {D : Dom} (K : Nat) (Φ : Ex → St → Prop) :
 (Holds C P 9 D K Φ (vc C w_whole b_whole [] (start [clA c] []) lf)) =
 (Fun C P 63 [(AV.dat (List.length (Cl.b c)) false 1 (rowL (Cl.b c)))] [] (hA (Sp.sumN (bytesL (List.length (Cl.b c)) (rowL (Cl.b c))))) [] ∧
 ((∀ (i : Nat), ((i < 32) → True)) ∧
 ((∀ (i : Nat), ((i < 32) → ((IntKind.u8 = IntKind.u8) ∧ (IntKind.u8 = IntKind.u8)))) ∧
 (Φ Ex.ret (St.mk [(0, (clA c)), (1, (AV.ptr 1 [])), (2, (AV.sb (List.all (List.range 32) (fun (i : Nat) => ((((Sp.sumN (bytesL (List.length (Cl.b c)) (rowL (Cl.b c))) i) : Nat) : Int) == (((Cl.h c i) : Nat) : Int))))))] [(1, (Blk.c (clA c)))] [1]))))) := by kernel_rfl
theorem rwhole_A (c : Cl) {D : Dom} (K : Nat) (Φ : Ex → St → Prop) :
 (Holds C P 9 D K Φ (vc C w_rwhole b_rwhole [] (start [clA c] []) lf)) =
 (Fun C P 29 [(AV.dat (List.length (Cl.b c)) false 1 (rowL (Cl.b c)))] [] (hA (Sp.sumN (bytesL (List.length (Cl.b c)) (rowL (Cl.b c))))) [] ∧
 ((∀ (i : Nat), ((i < 32) → True)) ∧
 ((∀ (i : Nat), ((i < 32) → ((IntKind.u8 = IntKind.u8) ∧ (IntKind.u8 = IntKind.u8)))) ∧
 (Φ Ex.ret (St.mk [(0, (clA c)), (1, (AV.ptr 1 [])), (2, (AV.sb (List.all (List.range 32) (fun (i : Nat) => ((((Sp.sumN (bytesL (List.length (Cl.b c)) (rowL (Cl.b c))) i) : Nat) : Int) == (((Cl.h c i) : Nat) : Int))))))] [(1, (Blk.c (clA c)))] [1]))))) := by kernel_rfl
theorem number_A (c : Cl) {D : Dom} (K : Nat) (Φ : Ex → St → Prop) :
 (Holds C P 8 D K Φ (vc C w_number b_number [] (start [clA c] []) lf)) =
 (((2 = 2) ∧ ((1 = 1) ∧ (∀ (i : Nat), ((i < 2) → (shp (AV.i (0 : Int)) (layParts (fun (x : Nat) => (AV.i (0 : Int))) [(0, (AV.i (Cl.i c))), (1, (AV.i (Cl.s c)))] i)))))) ∧
 (Φ Ex.ret (St.mk [(0, (clA c)), (1, (AV.ptr 1 [])), (2, (AV.ptr 2 []))] [(1, (Blk.c (clA c))), (2, (Blk.c (AV.arr 2 1 (layParts (fun (x : Nat) => (AV.i (0 : Int))) [(0, (AV.i (Cl.i c))), (1, (AV.i (Cl.s c)))]))))] [2, 1]))) := by kernel_rfl
theorem ccmp_A (a b : Int) {D : Dom} (K : Nat) (Φ : Ex → St → Prop) :
 (Holds C P 20 D K Φ (vc C w_ccmp b_ccmp [] (start [.i a, .i b] []) lf)) =
 (Fun C P 82 [(AV.i a)] [] (AV.sb false) [] ∧
 (True ∧
 (Fun C P 82 [(AV.i b)] [] (AV.sb false) [] ∧
 (True ∧
 ((false = true →
 ((false = true →
 (Φ Ex.ret (St.mk [(0, (AV.i a)), (1, (AV.i b)), (4, (AV.i (0 : Int))), (5, (AV.sb false)), (6, (AV.sb false)), (11, (AV.v (Value.bool true))), (12, (AV.v (Value.bool true)))] [] []))) ∧
 (false = false →
 (Φ Ex.ret (St.mk [(0, (AV.i a)), (1, (AV.i b)), (4, (AV.i (-1 : Int))), (5, (AV.sb false)), (6, (AV.sb false)), (11, (AV.v (Value.bool true))), (12, (AV.v (Value.bool false)))] [] []))))) ∧
 (false = false →
 ((false = true →
 (Φ Ex.ret (St.mk [(0, (AV.i a)), (1, (AV.i b)), (4, (AV.i (1 : Int))), (5, (AV.sb false)), (6, (AV.sb false)), (11, (AV.v (Value.bool false))), (13, (AV.v (Value.bool true)))] [] []))) ∧
 (false = false →
 (((decide (a < b)) = true →
 (Φ Ex.ret (St.mk [(0, (AV.i a)), (1, (AV.i b)), (4, (AV.i (-1 : Int))), (5, (AV.sb false)), (6, (AV.sb false)), (11, (AV.v (Value.bool false))), (13, (AV.v (Value.bool false))), (16, (AV.v (Value.bool true)))] [] []))) ∧
 ((decide (a < b)) = false →
 (((decide (a > b)) = true →
 (Φ Ex.ret (St.mk [(0, (AV.i a)), (1, (AV.i b)), (4, (AV.i (1 : Int))), (5, (AV.sb false)), (6, (AV.sb false)), (11, (AV.v (Value.bool false))), (13, (AV.v (Value.bool false))), (16, (AV.v (Value.bool false))), (19, (AV.v (Value.bool true)))] [] []))) ∧
 ((decide (a > b)) = false →
 (Φ Ex.ret (St.mk [(0, (AV.i a)), (1, (AV.i b)), (4, (AV.i (0 : Int))), (5, (AV.sb false)), (6, (AV.sb false)), (11, (AV.v (Value.bool false))), (13, (AV.v (Value.bool false))), (16, (AV.v (Value.bool false))), (19, (AV.v (Value.bool false)))] [] [])))))))))))))) := by kernel_rfl
theorem isnan_A (a : Int) {D : Dom} (K : Nat) (Φ : Ex → St → Prop) :
 (Holds C P 6 D K Φ (vc C w_isnan b_isnan [] (start [.i a] []) lf)) =
 (Φ Ex.ret (St.mk [(0, (AV.i a)), (2, (AV.sb (a != a)))] [] [])) := by kernel_rfl
theorem cmpI_A (ex ey : Bool) (a b x y : Int) {D : Dom} (K : Nat) (Φ : Ex → St → Prop) :
 (Holds C P 36 D K Φ (vc C w_cmpI b_cmpI [] (start [p2 ex a b, p2 ey x y] []) lf)) =
 (LoopOK C P 36 D K (bodyAt b_cmpI [1, 0, 1, 0]) (St.mk [(0, (AV.dat 2 ex 1 (fun (k : Nat) => (AV.i (if (k = 0) then a else b))))), (1, (AV.dat 2 ey 1 (fun (k : Nat) => (AV.i (if (k = 0) then x else y))))), (4, (AV.i (0 : Int))), (9, (AV.dat 2 ex 1 (fun (k : Nat) => (AV.i (if (k = 0) then a else b))))), (10, (AV.i (2 : Int))), (11, (AV.i (0 : Int)))] [] []) (fun (e : Ex) (S' : St) => Holds C P 36 D K Φ (after C w_cmpI b_cmpI [1, 0, 1, 0] [] lf e S'))) := by kernel_rfl
noncomputable abbrev bd_cmpI_0 : Code := bodyAt (b_cmpI) [1, 0, 1, 0]
theorem ok_cmpI_0 : codeOK bd_cmpI_0 = true := by kernel_rfl
noncomputable abbrev rest_cmpI_0 (D : Dom) (K : Nat) (Φ : Ex → St → Prop) : Ex → St → Prop := fun e S' => Holds C P 36 D K Φ (after C w_cmpI (b_cmpI) [1, 0, 1, 0] [] lf e S')
theorem cmpI_L0 (ex ey : Bool) (a b x y : Int) (i : Nat) {D : Dom} (K : Nat) (Φ : Ex → St → Prop) :
 (Holds C P 36 D K (RoundQ C 36 D K (I_cm ex ey a b x y) (fun i => i ≤ 2 ∧ (0 < i → cmpZ a x = 0) ∧ (1 < i → cmpZ b y = 0)) (fun i => 2 - i) ((fun i => 2 - i) (i)) (rest_cmpI_0 D K Φ)) (vc C w_cmpI bd_cmpI_0 [] ((I_cm ex ey a b x y) (i)) lf)) =
 (((decide (((i : Nat) : Int) < (2 : Int))) = true →
 ((((0 : Int) ≤ ((i : Nat) : Int)) ∧ (((i : Nat) : Int) < (2 : Int))) ∧
 (((decide (((i : Nat) : Int) ≥ (2 : Int))) = true →
 (Φ Ex.ret (St.mk [(0, (AV.dat 2 ex 1 (fun (k : Nat) => (AV.i (if (k = 0) then a else b))))), (1, (AV.dat 2 ey 1 (fun (k : Nat) => (AV.i (if (k = 0) then x else y))))), (4, (AV.i (1 : Int))), (5, (AV.i ((i : Nat) : Int))), (6, (AV.i (if (i = 0) then a else b))), (9, (AV.dat 2 ex 1 (fun (k : Nat) => (AV.i (if (k = 0) then a else b))))), (10, (AV.i (2 : Int))), (11, (AV.i ((i : Nat) : Int))), (12, (AV.v (Value.bool true))), (19, (AV.v (Value.bool true)))] [] []))) ∧
 ((decide (((i : Nat) : Int) ≥ (2 : Int))) = false →
 ((((0 : Int) ≤ ((i : Nat) : Int)) ∧ (((i : Nat) : Int) < (2 : Int))) ∧
 (Fun C P 79 [(AV.i (if (i = 0) then a else b)), (AV.i (if (i = 0) then x else y))] [] (AV.i (cmpZ (if (i = 0) then a else b) (if (i = 0) then x else y))) [] ∧
 (True ∧
 ((((cmpZ (if (i = 0) then a else b) (if (i = 0) then x else y)) != (0 : Int)) = true →
 (Φ Ex.ret (St.mk [(0, (AV.dat 2 ex 1 (fun (k : Nat) => (AV.i (if (k = 0) then a else b))))), (1, (AV.dat 2 ey 1 (fun (k : Nat) => (AV.i (if (k = 0) then x else y))))), (4, (AV.i (cmpZ (if (i = 0) then a else b) (if (i = 0) then x else y)))), (5, (AV.i ((i : Nat) : Int))), (6, (AV.i (if (i = 0) then a else b))), (7, (AV.i (if (i = 0) then x else y))), (8, (AV.i (cmpZ (if (i = 0) then a else b) (if (i = 0) then x else y)))), (9, (AV.dat 2 ex 1 (fun (k : Nat) => (AV.i (if (k = 0) then a else b))))), (10, (AV.i (2 : Int))), (11, (AV.i ((i : Nat) : Int))), (12, (AV.v (Value.bool true))), (19, (AV.v (Value.bool false))), (28, (AV.v (Value.bool true)))] [] []))) ∧
 (((cmpZ (if (i = 0) then a else b) (if (i = 0) then x else y)) != (0 : Int)) = false →
 ((I64 (((i + 1) : Nat) : Int)) ∧
 ((RoundQ C 36 D K (I_cm ex ey a b x y) (fun i => i ≤ 2 ∧ (0 < i → cmpZ a x = 0) ∧ (1 < i → cmpZ b y = 0)) (fun i => 2 - i) ((fun i => 2 - i) (i)) (rest_cmpI_0 D K Φ)) Ex.normal (St.mk [(0, (AV.dat 2 ex 1 (fun (k : Nat) => (AV.i (if (k = 0) then a else b))))), (1, (AV.dat 2 ey 1 (fun (k : Nat) => (AV.i (if (k = 0) then x else y))))), (5, (AV.i ((i : Nat) : Int))), (6, (AV.i (if (i = 0) then a else b))), (7, (AV.i (if (i = 0) then x else y))), (8, (AV.i (cmpZ (if (i = 0) then a else b) (if (i = 0) then x else y)))), (9, (AV.dat 2 ex 1 (fun (k : Nat) => (AV.i (if (k = 0) then a else b))))), (10, (AV.i (2 : Int))), (11, (AV.i (((i + 1) : Nat) : Int))), (12, (AV.v (Value.bool true))), (19, (AV.v (Value.bool false))), (28, (AV.v (Value.bool false)))] [] [])))))))))))) ∧
 ((decide (((i : Nat) : Int) < (2 : Int))) = false →
 ((false = true →
 (Φ Ex.ret (St.mk [(0, (AV.dat 2 ex 1 (fun (k : Nat) => (AV.i (if (k = 0) then a else b))))), (1, (AV.dat 2 ey 1 (fun (k : Nat) => (AV.i (if (k = 0) then x else y))))), (4, (AV.i (-1 : Int))), (9, (AV.dat 2 ex 1 (fun (k : Nat) => (AV.i (if (k = 0) then a else b))))), (10, (AV.i (2 : Int))), (11, (AV.i ((i : Nat) : Int))), (12, (AV.v (Value.bool false))), (35, (AV.v (Value.bool true)))] [] []))) ∧
 (false = false →
 (Φ Ex.ret (St.mk [(0, (AV.dat 2 ex 1 (fun (k : Nat) => (AV.i (if (k = 0) then a else b))))), (1, (AV.dat 2 ey 1 (fun (k : Nat) => (AV.i (if (k = 0) then x else y))))), (4, (AV.i (0 : Int))), (9, (AV.dat 2 ex 1 (fun (k : Nat) => (AV.i (if (k = 0) then a else b))))), (10, (AV.i (2 : Int))), (11, (AV.i ((i : Nat) : Int))), (12, (AV.v (Value.bool false))), (35, (AV.v (Value.bool false)))] [] [])))))) := by kernel_rfl
theorem compare_A (c e : Cl) {D : Dom} (K : Nat) (Φ : Ex → St → Prop) :
 (Holds C P 14 D K Φ (vc C w_compare b_compare [] (start [clA c, clA e] []) lf)) =
 (Fun C P 54 [(clA c)] [] (AV.arr 2 1 (fun (k : Nat) => (AV.i (num2 (toCl (clA c)) k)))) [] ∧
 ((∀ (i : Nat), ((i < 2) → True)) ∧
 (Fun C P 54 [(clA e)] [] (AV.arr 2 1 (fun (k : Nat) => (AV.i (num2 (toCl (clA e)) k)))) [] ∧
 ((∀ (i : Nat), ((i < 2) → True)) ∧
 (((2 = 2) ∧ ((1 = 1) ∧ (∀ (i : Nat), ((i < 2) → ((true = true) ∧ (true = true)))))) ∧
 (((2 = 2) ∧ ((1 = 1) ∧ (∀ (i : Nat), ((i < 2) → ((true = true) ∧ (true = true)))))) ∧
 ((((0 : Int) ≤ (0 : Int)) ∧ (((0 : Int) ≤ (2 : Int)) ∧ ((2 : Int) ≤ (2 : Int)))) ∧
 ((((0 : Int) ≤ (0 : Int)) ∧ (((0 : Int) ≤ (2 : Int)) ∧ ((2 : Int) ≤ (2 : Int)))) ∧
 (Fun C P 71 [(AV.dat 2 false 1 (fun (i : Nat) => (AV.i (num2 (toCl (clA c)) (0 + i))))), (AV.dat 2 false 1 (fun (i : Nat) => (AV.i (num2 (toCl (clA e)) (0 + i)))))] [] (AV.i (if ((cmpZ (num2 (toCl (clA c)) 0) (num2 (toCl (clA e)) 0)) = (0 : Int)) then (cmpZ (num2 (toCl (clA c)) 1) (num2 (toCl (clA e)) 1)) else (cmpZ (num2 (toCl (clA c)) 0) (num2 (toCl (clA e)) 0)))) [] ∧
 (True ∧
 (Φ Ex.ret (St.mk [(0, (clA c)), (1, (clA e)), (2, (AV.ptr 2 [])), (3, (AV.ptr 3 [])), (4, (AV.i (if ((cmpZ (num2 (toCl (clA c)) 0) (num2 (toCl (clA e)) 0)) = (0 : Int)) then (cmpZ (num2 (toCl (clA c)) 1) (num2 (toCl (clA e)) 1)) else (cmpZ (num2 (toCl (clA c)) 0) (num2 (toCl (clA e)) 0))))), (5, (AV.ptr 5 [])), (6, (AV.ptr 6 []))] [(2, (Blk.c (clA c))), (3, (Blk.c (clA e))), (5, (Blk.c (AV.arr 2 1 (fun (k : Nat) => (AV.i (num2 (toCl (clA c)) k)))))), (6, (Blk.c (AV.arr 2 1 (fun (k : Nat) => (AV.i (num2 (toCl (clA e)) k))))))] [6, 5, 3, 2])))))))))))) := by kernel_rfl
theorem perf1_A (c : Cl) (j : Jb) {D : Dom} (K : Nat) (Φ : Ex → St → Prop) :
 (Holds C P 10 D K Φ (vc C w_perf1 b_perf1 [] (start [clA c, .pd (jbA j)] []) lf)) =
 (Φ Ex.ret (St.mk [(0, (clA c)), (1, (AV.pd (jbA j))), (2, (AV.ptr 2 [])), (3, (AV.sb ((Cl.i c) == (Cl.i (Jb.c j)))))] [(2, (Blk.c (clA c)))] [2])) := by kernel_rfl
theorem cont1_A (i : Int) {D : Dom} (K : Nat) (Φ : Ex → St → Prop) :
 (Holds C P 3 D K Φ (vc C w_cont1 b_cont1 [] (start [.i i] []) lf)) =
 (Φ Ex.ret (St.mk [(2, (AV.v (Value.bool true)))] [] [])) := by kernel_rfl
theorem crash1_A (i : Int) (ex : Bool) (l : List Bool) {D : Dom} (K : Nat) (Φ : Ex → St → Prop) :
 (Holds C P 14 D K Φ (vc C w_crash1 b_crash1 [] (start [.i i, .pd (bA ex l)] []) lf)) =
 (((decide (i < (((List.length l) : Nat) : Int))) = true →
 ((((0 : Int) ≤ i) ∧ (i < (((List.length l) : Nat) : Int))) ∧
 (Φ Ex.ret (St.mk [(0, (AV.i i)), (1, (AV.pd (AV.dat (List.length l) ex 1 (fun (i1 : Nat) => (AV.sb (List.getD l i1 false)))))), (3, (AV.sb (List.getD l (Int.toNat i) false)))] [] [])))) ∧
 ((decide (i < (((List.length l) : Nat) : Int))) = false →
 (Φ Ex.ret (St.mk [(0, (AV.i i)), (1, (AV.pd (AV.dat (List.length l) ex 1 (fun (i1 : Nat) => (AV.sb (List.getD l i1 false)))))), (3, (AV.v (Value.bool false)))] [] [])))) := by kernel_rfl
set_option maxRecDepth 1000000 in
theorem rproper_A (c : Cl) {D : Dom} (K : Nat) (Φ : Ex → St → Prop) :
 (Holds C P 27 D K Φ (vc C w_rproper b_rproper [] (start [clA c] []) lf)) =
 (((decide ((Cl.i c) ≥ (0 : Int))) = true →
 (((decide ((Cl.i c) < (4096 : Int))) = true →
 (((decide ((Cl.s c) ≥ (0 : Int))) = true →
 (((decide ((Cl.s c) < (12 : Int))) = true →
 (Φ Ex.ret (St.mk [(0, (clA c)), (1, (AV.ptr 1 [])), (2, (AV.sb (decide ((((List.length (Cl.b c)) : Nat) : Int) ≤ (1048576 : Int)))))] [(1, (Blk.c (clA c)))] [1]))) ∧
 ((decide ((Cl.s c) < (12 : Int))) = false →
 (Φ Ex.ret (St.mk [(0, (clA c)), (1, (AV.ptr 1 [])), (2, (AV.v (Value.bool false)))] [(1, (Blk.c (clA c)))] [1]))))) ∧
 ((decide ((Cl.s c) ≥ (0 : Int))) = false →
 (Φ Ex.ret (St.mk [(0, (clA c)), (1, (AV.ptr 1 [])), (2, (AV.v (Value.bool false)))] [(1, (Blk.c (clA c)))] [1]))))) ∧
 ((decide ((Cl.i c) < (4096 : Int))) = false →
 (Φ Ex.ret (St.mk [(0, (clA c)), (1, (AV.ptr 1 [])), (2, (AV.v (Value.bool false)))] [(1, (Blk.c (clA c)))] [1]))))) ∧
 ((decide ((Cl.i c) ≥ (0 : Int))) = false →
 (Φ Ex.ret (St.mk [(0, (clA c)), (1, (AV.ptr 1 [])), (2, (AV.v (Value.bool false)))] [(1, (Blk.c (clA c)))] [1])))) := by kernel_rfl
theorem rbefore_A (c e : Cl) {D : Dom} (K : Nat) (Φ : Ex → St → Prop) :
 (Holds C P 24 D K Φ (vc C w_rbefore b_rbefore [] (start [clA c, clA e] []) lf)) =
 (((decide ((Cl.i c) < (Cl.i e))) = true →
 (Φ Ex.ret (St.mk [(0, (clA c)), (1, (clA e)), (2, (AV.ptr 2 [])), (3, (AV.ptr 3 [])), (4, (AV.v (Value.bool true)))] [(2, (Blk.c (clA c))), (3, (Blk.c (clA e)))] [3, 2]))) ∧
 ((decide ((Cl.i c) < (Cl.i e))) = false →
 ((((Cl.i c) == (Cl.i e)) = true →
 (Φ Ex.ret (St.mk [(0, (clA c)), (1, (clA e)), (2, (AV.ptr 2 [])), (3, (AV.ptr 3 [])), (4, (AV.sb (decide ((Cl.s c) < (Cl.s e)))))] [(2, (Blk.c (clA c))), (3, (Blk.c (clA e)))] [3, 2]))) ∧
 (((Cl.i c) == (Cl.i e)) = false →
 (Φ Ex.ret (St.mk [(0, (clA c)), (1, (clA e)), (2, (AV.ptr 2 [])), (3, (AV.ptr 3 [])), (4, (AV.v (Value.bool false)))] [(2, (Blk.c (clA c))), (3, (Blk.c (clA e)))] [3, 2])))))) := by kernel_rfl
theorem tt_then {b : Bool} {p q : Prop} (h : b = true) (hp : p) : (b = true → p) ∧ (b = false → q) := ⟨fun _ => hp, fun hf => by rw [h] at hf; cases hf⟩
theorem ff_then {b : Bool} {p q : Prop} (h : b = false) (hq : q) : (b = true → p) ∧ (b = false → q) := ⟨fun hf => (by rw [h] at hf; cases hf), fun _ => hq⟩
theorem nf_then {b : Bool} {p q : Prop} (h : b = true) (hq : q) : ((!b) = true → p) ∧ ((!b) = false → q) := ff_then (by rw [h]; rfl) hq
theorem inrange_fun (c : Cl) : Fun C P F_inrange [clA c] [] (.sb (inRng c.i c.s)) [] := by
 refine in_inrange (W := w_inrange) rfl 0 (by simp) rfl (fun id h => absurd rfl h) fun D => ?_
 refine of_eq (inrange_A c 0 _) ?_
 unfold inRng
 refine ⟨fun h1 => ⟨fun h2 => ⟨fun h3 => ?_, fun h3 => ?_⟩, fun h2 => ?_⟩, fun h1 => ?_⟩
 ·rw [show decide (0 ≤ c.i) = true from h1, h2, show decide (0 ≤ c.s) = true from h3]
  exact post_tmp rfl (sm_same rfl)
 ·rw [show decide (0 ≤ c.i) = true from h1, h2, show decide (0 ≤ c.s) = false from h3]
  exact post_tmp rfl (sm_b rfl)
 ·rw [show decide (0 ≤ c.i) = true from h1, h2]
  exact post_tmp rfl (sm_b rfl)
 ·rw [show decide (0 ≤ c.i) = false from h1]
  exact post_tmp rfl (sm_b rfl)
theorem whole_fun (c : Cl) (hs : Small c.b) (hl : c.b.length < 2 ^ 40) : Fun C P F_whole [clA c] [] (.sb (whC c)) [] := by
 refine in_whole (W := w_whole) rfl 0 (by simp) rfl (fun id h => absurd rfl h) fun D => ?_
 refine of_eq (whole_A c 0 _) ?_
 have h := sum_call (n := c.b.length) (e := 1) (ex := false) (f := rowL c.b) (fun i _ => ⟨rfl, getD_small hs i⟩) (.inr rfl) (by omega)
 rw [bytesL_row] at h ⊢
 exact ⟨h, fun _ _ => trivial, fun _ _ => ⟨rfl, rfl⟩, post_tmp rfl (sm_same rfl)⟩
theorem rwhole_fun (c : Cl) (hs : Small c.b) (hl : c.b.length < 2 ^ 40) : Fun C P F_rwhole [clA c] [] (.sb (whC c)) [] := by
 refine in_rwhole (W := w_rwhole) rfl 0 (by simp) rfl (fun id h => absurd rfl h) fun D => ?_
 refine of_eq (rwhole_A c 0 _) ?_
 have h := rsum_call (n := c.b.length) (e := 1) (ex := false) (f := rowL c.b) (fun i _ => ⟨rfl, getD_small hs i⟩) (.inr rfl) (by omega)
 rw [bytesL_row] at h ⊢
 exact ⟨h, fun _ _ => trivial, fun _ _ => ⟨rfl, rfl⟩, post_tmp rfl (sm_same rfl)⟩
theorem number_fun (c : Cl) : Fun C P F_number [clA c] [] (.arr 2 1 (fun k => .i (num2 c k))) [] := by
 refine in_number (W := w_number) rfl 0 (by simp) rfl (fun id h => absurd rfl h) fun D => ?_
 refine of_eq (number_A c 0 _) ?_
 have e : ∀ k, k < 2 → layParts (fun (_ : Nat) => AV.i 0) [(0, AV.i c.i), (1, AV.i c.s)] k = .i (num2 c k) := fun k hk => match k, hk with | 0, _ => rfl | 1, _ => rfl
 exact ⟨⟨rfl, rfl, fun k hk => by rw [e k hk]; exact ⟨rfl, rfl⟩⟩, post_cell rfl rfl (sm_arr fun k hk => e k hk) rfl⟩
theorem isnan_fun (a : Int) : Fun C P F_isnan [.i a] [] (.sb false) [] := by
 refine in_isnan (W := w_isnan) rfl 0 (by simp) rfl (fun id h => absurd rfl h) fun D => ?_
 refine of_eq (isnan_A a 0 _) ?_
 have e : (a != a) = false := by simp
 rw [e]
 exact post_tmp rfl (sm_same rfl)
theorem ccmp_fun (a b : Int) : Fun C P F_ccmp [.i a, .i b] [] (.i (cmpZ a b)) [] := by
 refine in_ccmp (W := w_ccmp) rfl 0 (by simp) rfl (fun id h => absurd rfl h) fun D => ?_
 refine of_eq (ccmp_A a b 0 _) ?_
 refine ⟨isnan_fun a, trivial, isnan_fun b, trivial, fun h => (by cases h), fun _ => ⟨fun h => (by cases h), fun _ => ⟨fun h => ?_, fun h => ⟨fun h2 => ?_, fun h2 => ?_⟩⟩⟩⟩
 ·simp only [decide_eq_true_eq] at h
  have e : cmpZ a b = -1 := if_pos h
  rw [e]; exact post_tmp rfl (sm_same rfl)
 ·simp only [decide_eq_true_eq, decide_eq_false_iff_not] at h h2
  have e : cmpZ a b = 1 := by unfold cmpZ; rw [if_neg h, if_pos h2]
  rw [e]; exact post_tmp rfl (sm_same rfl)
 ·simp only [decide_eq_false_iff_not] at h h2
  have e : cmpZ a b = 0 := by unfold cmpZ; rw [if_neg h, if_neg h2]
  rw [e]; exact post_tmp rfl (sm_same rfl)
theorem cmpI_fun (ex ey : Bool) (a b x y : Int) : Fun C P F_cmpI [p2 ex a b, p2 ey x y] [] (.i (if cmpZ a x = 0 then cmpZ b y else cmpZ a x)) [] := by
 refine in_cmpI (W := w_cmpI) rfl 0 (by simp) rfl (fun id h => absurd rfl h) fun D => ?_
 refine of_eq (cmpI_A ex ey a b x y 0 _) ?_
 refine loop_inv (W := w_cmpI) ctx mixed ok_cmpI_0 (I_cm ex ey a b x y) (fun i => i ≤ 2 ∧ (0 < i → cmpZ a x = 0) ∧ (1 < i → cmpZ b y = 0)) (fun i => 2 - i) 0 ⟨Nat.zero_le _, fun h => absurd h (Nat.lt_irrefl 0), fun h => absurd h (Nat.not_lt_zero 1)⟩ ?_ fun i hi => ?_
 ·exact ent_of [] rfl (tm_cons rfl (sm_same rfl) (tm_cons rfl (sm_same rfl) (tm_cons rfl (sm_same rfl) (tm_cons rfl (sm_same rfl) (tm_cons rfl (sm_same rfl) tm_nil))))) hp_nil
 obtain ⟨h1, h2, h3⟩ := hi
 refine of_eq (cmpI_L0 ex ey a b x y i 0 _) ⟨fun h => ?_, fun h => ?_⟩
 ·simp only [decide_eq_true_eq] at h
  refine ⟨(by first | omega | decide | (unfold I64; omega)), ff_then (by simp; omega) ⟨(by first | omega | decide | (unfold I64; omega)), ccmp_fun _ _, trivial, fun h4 => ?_, fun h4 => ⟨(by first | omega | decide | (unfold I64; omega)), round_end (i + 1) ?_ (ent_of [] rfl (tm_cons rfl (sm_same rfl) (tm_cons rfl (sm_same rfl) (tm_cons rfl (sm_same rfl) (tm_cons rfl (sm_same rfl) (tm_cons rfl (sm_same rfl) tm_nil))))) hp_nil) (by dsimp only; omega)⟩⟩⟩
  ·have h4 : cmpZ (if i = 0 then a else b) (if i = 0 then x else y) ≠ 0 := by simpa using h4
   have e : (if cmpZ a x = 0 then cmpZ b y else cmpZ a x) = cmpZ (if i = 0 then a else b) (if i = 0 then x else y) := by
    by_cases h0 : i = 0
    ·rw [if_pos h0, if_pos h0] at h4 ⊢
     rw [if_neg h4]
    ·rw [if_neg h0, if_neg h0, if_pos (h2 (by omega))]
   rw [e]
   exact post_tmp rfl (sm_same rfl)
  ·have h4 : cmpZ (if i = 0 then a else b) (if i = 0 then x else y) = 0 := by simpa using h4
   refine ⟨by omega, fun _ => ?_, fun h5 => ?_⟩
   ·by_cases h0 : i = 0
    ·rwa [if_pos h0, if_pos h0] at h4
    ·exact h2 (by omega)
   ·by_cases h0 : i = 0
    ·omega
    ·rwa [if_neg h0, if_neg h0] at h4
 ·simp only [decide_eq_false_iff_not] at h
  obtain rfl : i = 2 := by omega
  have e : (if cmpZ a x = 0 then cmpZ b y else cmpZ a x) = 0 := by rw [if_pos (h2 (by decide))]; exact h3 (by decide)
  rw [e]
  exact ⟨fun h => (by cases h), fun _ => post_tmp rfl (sm_same rfl)⟩
theorem cmp_p2 (c e : Cl) : Fun C P F_cmpI [(AV.dat 2 false 1 (fun (i : Nat) => (AV.i (num2 c (0 + i))))), (AV.dat 2 false 1 (fun (i : Nat) => (AV.i (num2 e (0 + i)))))] [] (.i (cmpC c e)) [] :=
 (cmpI_fun false false c.i c.s e.i e.s).sim ⟨sm_dat (fun h => h) fun k _ => (by rw [Nat.zero_add]; unfold num2; split <;> rfl), sm_dat (fun h => h) fun k _ => (by rw [Nat.zero_add]; unfold num2; split <;> rfl), trivial⟩ trivial
theorem compare_fun (c e : Cl) : Fun C P F_compare [clA c, clA e] [] (.i (cmpC c e)) [] := by
 refine in_compare (W := w_compare) rfl 0 (by simp) rfl (fun id h => absurd rfl h) fun D => ?_
 refine of_eq (compare_A c e 0 _) ?_
 rw [toCl_A, toCl_A]
 exact ⟨number_fun c, fun _ _ => trivial, number_fun e, fun _ _ => trivial, ⟨rfl, rfl, fun _ _ => ⟨rfl, rfl⟩⟩, ⟨rfl, rfl, fun _ _ => ⟨rfl, rfl⟩⟩, (by first | omega | decide | (unfold I64; omega)), (by first | omega | decide | (unfold I64; omega)), cmp_p2 c e, trivial, post_tmp rfl (sm_same rfl)⟩
theorem perf1_fun (c : Cl) (j : Jb) : Fun C P F_perf1 [clA c, .pd (jbA j)] [] (.sb (c.i == j.c.i)) [] := by
 refine in_perf1 (W := w_perf1) rfl 0 (by simp) rfl (fun id h => absurd rfl h) fun D => ?_
 exact of_eq (perf1_A c j 0 _) (post_tmp rfl (sm_same rfl))
theorem cont1_fun (i : Int) : Fun C P F_cont1 [.i i] [] (.sb true) [] := by
 refine in_cont1 (W := w_cont1) rfl 0 (by simp) rfl (fun id h => absurd rfl h) fun D => ?_
 exact of_eq (cont1_A i 0 _) (post_tmp rfl (sm_b rfl))
theorem crash1_fun (i : Nat) (ex : Bool) (l : List Bool) : Fun C P F_crash1 [.i i, .pd (bA ex l)] [] (.sb (l.getD i false)) [] := by
 refine in_crash1 (W := w_crash1) rfl 0 (by simp) rfl (fun id h => absurd rfl h) fun D => ?_
 refine of_eq (crash1_A i ex l 0 _) ⟨fun h => ?_, fun h => ?_⟩
 ·simp only [decide_eq_true_eq] at h
  exact ⟨(by first | omega | decide | (unfold I64; omega)), post_tmp rfl (sm_same rfl)⟩
 ·simp only [decide_eq_false_iff_not] at h
  have e : l.getD i false = false := by rw [List.getD_eq_getElem?_getD, List.getElem?_eq_none (by omega)]; rfl
  rw [e]
  exact post_tmp rfl (sm_b rfl)
theorem rbefore_fun (c e : Cl) : Fun C P F_rbefore [clA c, clA e] [] (.sb (ltC c e)) [] := by
 refine in_rbefore (W := w_rbefore) rfl 0 (by simp) rfl (fun id h => absurd rfl h) fun D => ?_
 refine of_eq (rbefore_A c e 0 _) ⟨fun h => ?_, fun h => ⟨fun h2 => ?_, fun h2 => ?_⟩⟩
 ·have x : ltC c e = true := by unfold ltC; rw [h]; rfl
  rw [x]; exact post_tmp rfl (sm_b rfl)
 ·have x : ltC c e = decide (c.s < e.s) := by
   unfold ltC
   rw [h, decide_eq_true (show c.i = e.i by simpa using h2)]; rfl
  rw [x]; exact post_tmp rfl (sm_same rfl)
 ·have x : ltC c e = false := by
   unfold ltC
   rw [h, decide_eq_false (show ¬ c.i = e.i by simpa using h2)]; rfl
  rw [x]; exact post_tmp rfl (sm_b rfl)
end Go.Bu.W
namespace Go.Bu.W
open Sp
def crBsC : List AV → Option (AV × List (Nat × Blk))
 | [x, y, _] => some (.tup [.i (plC (toCls x) (toCl y) : Nat), .sb (hsC (toCls x) (toCl y))], [])
 | _ => none
def crS2 (g : Nat) (args : List AV) (H : List (Nat × Blk)) : Option (AV × List (Nat × Blk)) :=
 sel (Nat.beq g F_bsC) (crBsC args) <| crS1 g args H
def wayB (keep : List Nat) (nt : Nat) (cuts : List Nat) : Way := ⟨crS2, fun _ => false, keep, [], nt, cuts, []⟩
def w_bsC : Way := wayB [0, 1, 2, 4, 6, 7, 8, 9, 10, 11, 17, 31] 49 []
noncomputable abbrev bd_bsC_0 : Code := bodyAt (b_bsC) [1, 1, 1, 0, 0]
theorem ok_bsC_0 : codeOK bd_bsC_0 = true := by kernel_rfl
noncomputable abbrev rest_bsC_0 (D : Dom) (K : Nat) (Φ : Ex → St → Prop) : Ex → St → Prop := fun e S' => Holds C P 49 D K Φ (after C w_bsC (b_bsC) [1, 1, 1, 0, 0] [] lf e S')
theorem cmpZ_neg {a b : Int} : cmpZ a b < 0 ↔ a < b := by
 unfold cmpZ
 split
 ·simp_all
 ·split <;> omega
theorem cmpZ_zero {a b : Int} : cmpZ a b = 0 ↔ a = b := by
 unfold cmpZ
 split
 ·omega
 ·split <;> omega
theorem cmpC_neg {a c : Cl} : cmpC a c < 0 ↔ ltC a c = true := by
 rw [lt_iff]
 unfold cmpC
 split
 ·rename_i h
  rw [cmpZ_zero] at h
  rw [cmpZ_neg]; omega
 ·rename_i h
  rw [cmpZ_zero] at h
  rw [cmpZ_neg]; omega
theorem cmpC_zero {a c : Cl} : cmpC a c = 0 ↔ a.i = c.i ∧ a.s = c.s := by
 unfold cmpC
 split
 ·rename_i h
  rw [cmpZ_zero] at h
  rw [cmpZ_zero]; simp [h]
 ·rename_i h
  have h2 := h
  rw [cmpZ_zero] at h2
  exact ⟨fun h3 => absurd h3 h, fun h3 => absurd h3.1 h2⟩
theorem clAt_lt {l : List Cl} {i : Nat} (h : i < l.length) : clAt l i = l[i] := by
 unfold clAt
 rw [List.getD_eq_getElem?_getD, List.getElem?_eq_getElem h]; rfl
theorem so_at {l : List Cl} (h : SoC l) {a b : Nat} (hab : a < b) (hb : b < l.length) : ltC (clAt l a) (clAt l b) = true := by
 rw [clAt_lt hb, clAt_lt (show a < l.length by omega)]
 exact List.pairwise_iff_getElem.1 h a b (by omega) hb hab
theorem pl_at {l : List Cl} {c : Cl} {i : Nat} (hi : i ≤ l.length) (h1 : ∀ k, k < i → cmpC (clAt l k) c < 0) (h2 : ∀ k, i ≤ k → k < l.length → 0 ≤ cmpC (clAt l k) c) : plC l c = i := by
 unfold plC
 have e1 : (l.take i).filter (fun a => ltC a c) = l.take i := filter_all fun a ha => by
  obtain ⟨k, hk, rfl⟩ := List.getElem_of_mem ha
  rw [List.length_take] at hk
  have := h1 k (by omega)
  rw [clAt_lt (by omega), cmpC_neg] at this
  rw [List.getElem_take]; exact this
 have e2 : (l.drop i).filter (fun a => ltC a c) = [] := filter_no fun a ha => by
  obtain ⟨k, hk, rfl⟩ := List.getElem_of_mem ha
  rw [List.length_drop] at hk
  have := h2 (i + k) (by omega) (by omega)
  rw [clAt_lt (by omega)] at this
  rw [List.getElem_drop, Bool.eq_false_iff]
  intro h
  rw [← cmpC_neg] at h
  omega
 rw [← List.take_append_drop i l, List.filter_append, e1, e2, List.append_nil, List.length_take]
 omega
theorem hs_at {l : List Cl} (h : SoC l) {c : Cl} {i : Nat} (hi : i < l.length) (h1 : ∀ k, k < i → cmpC (clAt l k) c < 0) (h2 : 0 ≤ cmpC (clAt l i) c) : hsC l c = (cmpC (clAt l i) c == 0) := by
 unfold hsC
 rw [Bool.eq_iff_iff, List.any_eq_true, beq_iff_eq, cmpC_zero]
 constructor
 ·rintro ⟨a, ha, hs⟩
  obtain ⟨k, hk, rfl⟩ := List.getElem_of_mem ha
  rw [← clAt_lt hk] at hs
  have hs := se_iff.1 hs
  rcases Nat.lt_trichotomy k i with hki | hki | hki
  ·have := h1 k hki
   rw [cmpC_neg, lt_iff] at this; omega
  ·rw [← hki]; exact hs
  ·have h3 := so_at h hki hk
   rw [lt_iff] at h3
   have h4 : ¬ cmpC (clAt l i) c < 0 := by omega
   rw [cmpC_neg, lt_iff] at h4
   omega
 ·intro hs
  exact ⟨l[i], List.getElem_mem hi, by rw [← clAt_lt hi]; exact se_iff.2 hs⟩
theorem hs_none {l : List Cl} {c : Cl} (h1 : ∀ k, k < l.length → cmpC (clAt l k) c < 0) : hsC l c = false := by
 unfold hsC
 rw [List.any_eq_false]
 intro a ha
 obtain ⟨k, hk, rfl⟩ := List.getElem_of_mem ha
 have := h1 k hk
 rw [clAt_lt hk, cmpC_neg, lt_iff] at this
 rw [se_iff]; omega
end Go.Bu.W
namespace Go.Bu.W
open Sp
abbrev rowC (l : List Cl) : Nat → AV := fun j => clA (clAt l j)
def crCloneC : List AV → Option (AV × List (Nat × Blk))
 | [.dat n _ _ f] => some (.sl 0 [] 0 n n false 35, [(0, .c (.arr n 35 f))])
 | _ => none
def crCloneB : List AV → Option (AV × List (Nat × Blk))
 | [.dat n _ _ f] => some (.dat n false 1 f, [])
 | _ => none
def crClipJ : List AV → Option (AV × List (Nat × Blk))
 | [.dat n _ e f] => some (.dat n true e f, [])
 | _ => none
def crPush : List AV → Option (AV × List (Nat × Blk))
 | [x, y] => some (dkA false false (pushD (toDk x) (toJb y)), [])
 | _ => none
def hitP (j : Jb) (c : Cl) : Bool := c.i == j.c.i
def idxL (p : Cl → Bool) (l : List Cl) : Int := if l.any p = true then ((l.takeWhile fun c => !p c).length : Nat) else -1
def crIdxF : List AV → Option (AV × List (Nat × Blk))
 | [x, .fn _ [.pd j]] => some (.i (idxL (hitP (toJb j)) (toCls x)), [])
 | [x, .fn _ []] => some (.i (idxL whC (toCls x)), [])
 | _ => none
def crPerf1 : List AV → Option (AV × List (Nat × Blk))
 | [x, .pd j] => some (.sb (hitP (toJb j) (toCl x)), [])
 | _ => none
def crS3 (g : Nat) (args : List AV) (H : List (Nat × Blk)) : Option (AV × List (Nat × Blk)) :=
 sel (Nat.beq g F_cloneC) (crCloneC args) <| sel (Nat.beq g F_cloneB) (crCloneB args) <| sel (Nat.beq g F_clipJ) (crClipJ args) <| sel (Nat.beq g F_push) (crPush args) <|
 sel (Nat.beq g F_idxF) (crIdxF args) <| sel (Nat.beq g F_perf1) (crPerf1 args) <| crS2 g args H
def wayF (keep : List Nat) (nt : Nat) (cuts : List Nat) : Way := ⟨crS3, fun _ => false, keep, [], nt, cuts, []⟩
def w_cloneC : Way := wayF [0, 2, 4] 8 []
def w_cloneB : Way := wayF [0, 2, 4] 8 []
def w_clipJ : Way := wayF [0, 2] 9 []
def w_push : Way := wayF [0, 1, 2, 3, 4] 13 []
def w_idxF : Way := wayF [0, 1, 4, 5, 7, 8, 9, 16] 19 []
def w_idxW : Way := wayF [0, 1, 4, 5, 7, 8, 9, 16] 19 []
def I_ixJ (ex : Bool) (l : List Cl) (j : Jb) (i : Nat) : St := { tm := [(0, csA ex l), (1, .fn (.func 67) [.pd (jbA j)]), (7, .i l.length), (8, .i i)], hp := [], seen := [] }
def I_ixW (ex : Bool) (l : List Cl) (i : Nat) : St := { tm := [(0, csA ex l), (1, .fn (.func 51) []), (7, .i l.length), (8, .i i)], hp := [], seen := [] }
theorem cloneC_A (ex : Bool) (l : List Cl) {D : Dom} (K : Nat) (Φ : Ex → St → Prop) :
 (Holds C P 8 D K Φ (vc C w_cloneC b_cloneC [] (start [csA ex l] []) lf)) =
 ((0 < (List.length l)) ∧
 ((((0 + (List.length l)) * 72) ≤ 140737488355328) ∧
 (Φ Ex.ret (St.mk [(0, (csA ex l)), (2, (AV.sl 7 [] 0 (0 + (List.length l)) (0 + (List.length l)) false 35)), (4, (AV.v (Value.bool false)))] [(7, (Blk.c (AV.arr (0 + (List.length l)) 35 (cat 0 (fun (i : Nat) => (AV.v (Value.tuple #[]))) (fun (i : Nat) => (clA (clAt l i)))))))] [7, 5])))) := by kernel_rfl
theorem cloneC_AN (c : Nat) {D : Dom} (K : Nat) (Φ : Ex → St → Prop) :
 (Holds C P 8 D K Φ (vc C w_cloneC b_cloneC [] (start [.v (.slice none 0 c)] []) lf)) =
 (Φ Ex.ret (St.mk [(0, (AV.v (Value.slice Option.none 0 c))), (2, (AV.dat 0 true 0 (fun (x : Nat) => (AV.v (Value.tuple #[]))))), (4, (AV.v (Value.bool true)))] [] [])) := by kernel_rfl
theorem cloneC_AS (a : Addr) (c : Nat) {D : Dom} (K : Nat) (Φ : Ex → St → Prop) :
 (Holds C P 8 D K Φ (vc C w_cloneC b_cloneC [] (start [.v (.slice (some a) 0 c)] []) lf)) =
 ((0 ≤ 140737488355328) ∧
 (Φ Ex.ret (St.mk [(0, (AV.v (Value.slice (Option.some a) 0 c))), (2, (AV.sl 7 [] 0 0 0 false 35)), (4, (AV.v (Value.bool (Option.isNone (Option.some a)))))] [(7, (Blk.c (AV.arr 0 35 (cat 0 (fun (i : Nat) => (AV.v (Value.tuple #[]))) (fun (x : Nat) => (AV.v (Value.tuple #[])))))))] [7, 5]))) := by kernel_rfl
theorem cloneB_A (ex : Bool) (l : List Nat) {D : Dom} (K : Nat) (Φ : Ex → St → Prop) :
 (Holds C P 8 D K Φ (vc C w_cloneB b_cloneB [] (start [.dat l.length ex 1 (rowL l)] []) lf)) =
 ((0 < (List.length l)) ∧
 ((((0 + (List.length l)) * 1) ≤ 140737488355328) ∧
 (Φ Ex.ret (St.mk [(0, (AV.dat (List.length l) ex 1 (rowL l))), (2, (AV.sl 7 [] 0 (0 + (List.length l)) (0 + (List.length l)) false 1)), (4, (AV.v (Value.bool false)))] [(7, (Blk.c (AV.arr (0 + (List.length l)) 1 (cat 0 (fun (i : Nat) => (AV.v (Value.tuple #[]))) (rowL l)))))] [7, 5])))) := by kernel_rfl
theorem cloneB_AN (c : Nat) {D : Dom} (K : Nat) (Φ : Ex → St → Prop) :
 (Holds C P 8 D K Φ (vc C w_cloneB b_cloneB [] (start [.v (.slice none 0 c)] []) lf)) =
 (Φ Ex.ret (St.mk [(0, (AV.v (Value.slice Option.none 0 c))), (2, (AV.dat 0 true 0 (fun (x : Nat) => (AV.v (Value.tuple #[]))))), (4, (AV.v (Value.bool true)))] [] [])) := by kernel_rfl
theorem cloneB_AS (a : Addr) (c : Nat) {D : Dom} (K : Nat) (Φ : Ex → St → Prop) :
 (Holds C P 8 D K Φ (vc C w_cloneB b_cloneB [] (start [.v (.slice (some a) 0 c)] []) lf)) =
 ((0 ≤ 140737488355328) ∧
 (Φ Ex.ret (St.mk [(0, (AV.v (Value.slice (Option.some a) 0 c))), (2, (AV.sl 7 [] 0 0 0 false 1)), (4, (AV.v (Value.bool (Option.isNone (Option.some a)))))] [(7, (Blk.c (AV.arr 0 1 (cat 0 (fun (i : Nat) => (AV.v (Value.tuple #[]))) (fun (x : Nat) => (AV.v (Value.tuple #[])))))))] [7, 5]))) := by kernel_rfl
theorem clipJ_A (ex : Bool) (l : List Jb) {D : Dom} (K : Nat) (Φ : Ex → St → Prop) :
 (Holds C P 9 D K Φ (vc C w_clipJ b_clipJ [] (start [jsA ex l] []) lf)) =
 ((((0 : Int) ≤ (0 : Int)) ∧ (((0 : Int) ≤ (((List.length l) : Nat) : Int)) ∧ (((((List.length l) : Nat) : Int) = (((List.length l) : Nat) : Int)) ∧ ((((List.length l) : Nat) : Int) ≤ (((List.length l) : Nat) : Int))))) ∧
 (Φ Ex.ret (St.mk [(0, (jsA ex l)), (2, (AV.dat (List.length l) true 36 (fun (i : Nat) => (jbA (jbAt l (0 + i))))))] [] []))) := by kernel_rfl
theorem push_A (ex ey : Bool) (d : Dk) (j : Jb) {D : Dom} (K : Nat) (Φ : Ex → St → Prop) :
 (Holds C P 13 D K Φ (vc C w_push b_push [] (start [dkA ex ey d, jbA j] []) lf)) =
 (Fun C P 64 [(jsA ey (Dk.q d))] [] (jsA true (Dk.q d)) [] ∧
 ((((List.length (Dk.q d)) = 0) ∨ (0 < 1)) ∧
 (((((List.length (Dk.q d)) + 1) * 80) ≤ 140737488355328) ∧
 ((((true = true) ∧ (true = true)) ∧ (((true = true) ∧ (true = true)) ∧ True)) ∧
 (Φ Ex.ret (St.mk [(0, (dkA ex ey d)), (1, (jbA j)), (2, (AV.ptr 2 [])), (3, (AV.ptr 3 [])), (4, (AV.ptr 4 []))] [(2, (Blk.c (AV.st [(csA ex (Dk.l d)), (AV.sl 10 [] 0 ((List.length (Dk.q d)) + 1) ((List.length (Dk.q d)) + 1) false 36)]))), (3, (Blk.c (jbA j))), (4, (Blk.c (AV.st [(csA ex (Dk.l d)), (AV.sl 10 [] 0 ((List.length (Dk.q d)) + 1) ((List.length (Dk.q d)) + 1) false 36)]))), (9, (Blk.c (AV.st [(jbA j)]))), (10, (Blk.c (AV.arr ((List.length (Dk.q d)) + 1) 36 (cat (List.length (Dk.q d)) (fun (i : Nat) => (jbA (jbAt (Dk.q d) i))) (fun (i : Nat) => (nthD [(jbA j)] (0 + i) (AV.v (Value.tuple #[]))))))))] [10, 9, 4, 3, 2])))))) := by kernel_rfl
theorem idxF_A (ex : Bool) (l : List Cl) (j : Jb) {D : Dom} (K : Nat) (Φ : Ex → St → Prop) :
 (Holds C P 19 D K Φ (vc C w_idxF b_idxF [] (start [csA ex l, .fn (.func 67) [.pd (jbA j)]] []) lf)) =
 (LoopOK C P 19 D K (bodyAt b_idxF [1, 0, 1, 0]) (St.mk [(0, (csA ex l)), (1, (AV.fn (Fn.func (67 : FuncId)) [(AV.pd (jbA j))])), (4, (AV.i (0 : Int))), (7, (AV.i (((List.length l) : Nat) : Int))), (8, (AV.i (0 : Int)))] [] []) (fun (e : Ex) (S' : St) => Holds C P 19 D K Φ (after C w_idxF b_idxF [1, 0, 1, 0] [] lf e S'))) := by kernel_rfl
theorem idxW_A (ex : Bool) (l : List Cl) {D : Dom} (K : Nat) (Φ : Ex → St → Prop) :
 (Holds C P 19 D K Φ (vc C w_idxW b_idxW [] (start [csA ex l, .fn (.func 51) []] []) lf)) =
 (LoopOK C P 19 D K (bodyAt b_idxW [1, 0, 1, 0]) (St.mk [(0, (csA ex l)), (1, (AV.fn (Fn.func (51 : FuncId)) [])), (4, (AV.i (0 : Int))), (7, (AV.i (((List.length l) : Nat) : Int))), (8, (AV.i (0 : Int)))] [] []) (fun (e : Ex) (S' : St) => Holds C P 19 D K Φ (after C w_idxW b_idxW [1, 0, 1, 0] [] lf e S'))) := by kernel_rfl
noncomputable abbrev bd_idxF_0 : Code := bodyAt (b_idxF) [1, 0, 1, 0]
theorem ok_idxF_0 : codeOK bd_idxF_0 = true := by kernel_rfl
noncomputable abbrev rest_idxF_0 (D : Dom) (K : Nat) (Φ : Ex → St → Prop) : Ex → St → Prop := fun e S' => Holds C P 19 D K Φ (after C w_idxF (b_idxF) [1, 0, 1, 0] [] lf e S')
theorem idxF_L0 (ex : Bool) (l : List Cl) (j : Jb) (i : Nat) {D : Dom} (K : Nat) (Φ : Ex → St → Prop) :
 (Holds C P 19 D K (RoundQ C 19 D K (I_ixJ ex l j) (fun i => i ≤ l.length ∧ ∀ k, k < i → hitP j (clAt l k) = false) (fun i => l.length - i) ((fun i => l.length - i) (i)) (rest_idxF_0 D K Φ)) (vc C w_idxF bd_idxF_0 [] ((I_ixJ ex l j) (i)) lf)) =
 (((decide (((i : Nat) : Int) < (((List.length l) : Nat) : Int))) = true →
 ((((0 : Int) ≤ ((i : Nat) : Int)) ∧ (((i : Nat) : Int) < (((List.length l) : Nat) : Int))) ∧
 (Fun C P (67 : FuncId) [(clA (clAt l i)), (AV.pd (jbA j))] [] (AV.sb (hitP (toJb (jbA j)) (toCl (clA (clAt l i))))) [] ∧
 (True ∧
 (((hitP (toJb (jbA j)) (toCl (clA (clAt l i)))) = true →
 (Φ Ex.ret (St.mk [(0, (csA ex l)), (1, (AV.fn (Fn.func (67 : FuncId)) [(AV.pd (jbA j))])), (4, (AV.i ((i : Nat) : Int))), (5, (AV.i ((i : Nat) : Int))), (7, (AV.i (((List.length l) : Nat) : Int))), (8, (AV.i ((i : Nat) : Int))), (9, (AV.v (Value.bool true))), (16, (AV.v (Value.bool true)))] [] []))) ∧
 ((hitP (toJb (jbA j)) (toCl (clA (clAt l i)))) = false →
 ((I64 (((i + 1) : Nat) : Int)) ∧
 ((RoundQ C 19 D K (I_ixJ ex l j) (fun i => i ≤ l.length ∧ ∀ k, k < i → hitP j (clAt l k) = false) (fun i => l.length - i) ((fun i => l.length - i) (i)) (rest_idxF_0 D K Φ)) Ex.normal (St.mk [(0, (csA ex l)), (1, (AV.fn (Fn.func (67 : FuncId)) [(AV.pd (jbA j))])), (5, (AV.i ((i : Nat) : Int))), (7, (AV.i (((List.length l) : Nat) : Int))), (8, (AV.i (((i + 1) : Nat) : Int))), (9, (AV.v (Value.bool true))), (16, (AV.v (Value.bool false)))] [] []))))))))) ∧
 ((decide (((i : Nat) : Int) < (((List.length l) : Nat) : Int))) = false →
 (Φ Ex.ret (St.mk [(0, (csA ex l)), (1, (AV.fn (Fn.func (67 : FuncId)) [(AV.pd (jbA j))])), (4, (AV.i (-1 : Int))), (7, (AV.i (((List.length l) : Nat) : Int))), (8, (AV.i ((i : Nat) : Int))), (9, (AV.v (Value.bool false)))] [] [])))) := by kernel_rfl
noncomputable abbrev bd_idxW_0 : Code := bodyAt (b_idxW) [1, 0, 1, 0]
theorem ok_idxW_0 : codeOK bd_idxW_0 = true := by kernel_rfl
noncomputable abbrev rest_idxW_0 (D : Dom) (K : Nat) (Φ : Ex → St → Prop) : Ex → St → Prop := fun e S' => Holds C P 19 D K Φ (after C w_idxW (b_idxW) [1, 0, 1, 0] [] lf e S')
theorem idxW_L0 (ex : Bool) (l : List Cl) (i : Nat) {D : Dom} (K : Nat) (Φ : Ex → St → Prop) :
 (Holds C P 19 D K (RoundQ C 19 D K (I_ixW ex l) (fun i => i ≤ l.length ∧ ∀ k, k < i → whC (clAt l k) = false) (fun i => l.length - i) ((fun i => l.length - i) (i)) (rest_idxW_0 D K Φ)) (vc C w_idxW bd_idxW_0 [] ((I_ixW ex l) (i)) lf)) =
 (((decide (((i : Nat) : Int) < (((List.length l) : Nat) : Int))) = true →
 ((((0 : Int) ≤ ((i : Nat) : Int)) ∧ (((i : Nat) : Int) < (((List.length l) : Nat) : Int))) ∧
 (Fun C P (51 : FuncId) [(clA (clAt l i))] [] (AV.sb (whC (toCl (clA (clAt l i))))) [] ∧
 (True ∧
 (((whC (toCl (clA (clAt l i)))) = true →
 (Φ Ex.ret (St.mk [(0, (csA ex l)), (1, (AV.fn (Fn.func (51 : FuncId)) [])), (4, (AV.i ((i : Nat) : Int))), (5, (AV.i ((i : Nat) : Int))), (7, (AV.i (((List.length l) : Nat) : Int))), (8, (AV.i ((i : Nat) : Int))), (9, (AV.v (Value.bool true))), (16, (AV.v (Value.bool true)))] [] []))) ∧
 ((whC (toCl (clA (clAt l i)))) = false →
 ((I64 (((i + 1) : Nat) : Int)) ∧
 ((RoundQ C 19 D K (I_ixW ex l) (fun i => i ≤ l.length ∧ ∀ k, k < i → whC (clAt l k) = false) (fun i => l.length - i) ((fun i => l.length - i) (i)) (rest_idxW_0 D K Φ)) Ex.normal (St.mk [(0, (csA ex l)), (1, (AV.fn (Fn.func (51 : FuncId)) [])), (5, (AV.i ((i : Nat) : Int))), (7, (AV.i (((List.length l) : Nat) : Int))), (8, (AV.i (((i + 1) : Nat) : Int))), (9, (AV.v (Value.bool true))), (16, (AV.v (Value.bool false)))] [] []))))))))) ∧
 ((decide (((i : Nat) : Int) < (((List.length l) : Nat) : Int))) = false →
 (Φ Ex.ret (St.mk [(0, (csA ex l)), (1, (AV.fn (Fn.func (51 : FuncId)) [])), (4, (AV.i (-1 : Int))), (7, (AV.i (((List.length l) : Nat) : Int))), (8, (AV.i ((i : Nat) : Int))), (9, (AV.v (Value.bool false)))] [] [])))) := by kernel_rfl
theorem cat0 {f g : Nat → AV} {i : Nat} : cat 0 f g (0 + i) = g i := by
 unfold cat
 rw [if_neg (Nat.not_lt_zero _), Nat.zero_add, Nat.sub_zero]
theorem cloneC_fun (ex : Bool) (l : List Cl) (hn : l.length < 2 ^ 38) : Fun C P F_cloneC [csA ex l] [] (.sl 0 [] 0 l.length l.length false 35) [(0, .c (.arr l.length 35 (rowC l)))] := by
 by_cases h0 : l = []
 ·subst h0
  refine fun_zero fun q c => ?_
  refine in_cloneC (W := w_cloneC) rfl 0 (by simp) rfl (fun id h => absurd rfl h) fun D => ?_
  cases q with
  | none => exact of_eq (cloneC_AN c 0 _) (post_row_nil rfl)
  | some a => exact of_eq (cloneC_AS a c 0 _) ⟨(by first | omega | decide | (unfold I64; omega)), post_row rfl rfl rfl (Nat.le_refl _) (Nat.le_refl _) rfl fun i hi => absurd hi (Nat.not_lt_zero i)⟩
 ·have hp : 0 < l.length := List.length_pos_iff.2 h0
  refine in_cloneC (W := w_cloneC) rfl 0 (by simp) rfl (fun id h => absurd rfl h) fun D => ?_
  exact of_eq (cloneC_A ex l 0 _) ⟨hp, by omega, post_row rfl rfl (Nat.zero_add _) (Nat.le_refl _) (by omega) (Nat.zero_add _) fun i hi => by simp [cat]⟩
theorem cloneB_fun (ex : Bool) (l : List Nat) (hn : l.length < 2 ^ 40) : Fun C P F_cloneB [.dat l.length ex 1 (rowL l)] [] (.dat l.length false 1 (rowL l)) [] := by
 by_cases h0 : l = []
 ·subst h0
  refine fun_zero fun q c => ?_
  refine in_cloneB (W := w_cloneB) rfl 0 (by simp) rfl (fun id h => absurd rfl h) fun D => ?_
  cases q with
  | none => exact of_eq (cloneB_AN c 0 _) (post_tmp rfl (.inr ⟨rfl, by simp, .inl rfl, fun i hi => absurd hi (Nat.not_lt_zero i)⟩))
  | some a => exact of_eq (cloneB_AS a c 0 _) ⟨(by first | omega | decide | (unfold I64; omega)), post_frz [7] (post_tmp rfl (.inr ⟨rfl, by simp, .inl rfl, fun i hi => absurd hi (Nat.not_lt_zero i)⟩))⟩
 ·have hp : 0 < l.length := List.length_pos_iff.2 h0
  refine in_cloneB (W := w_cloneB) rfl 0 (by simp) rfl (fun id h => absurd rfl h) fun D => ?_
  exact of_eq (cloneB_A ex l 0 _) ⟨hp, by omega, post_frz [7] (post_tmp rfl (sm_dat' (Nat.zero_add _) (by simp) fun i hi => cat0))⟩
theorem clipJ_fun (ex : Bool) (l : List Jb) (hn : l.length < 2 ^ 40) : Fun C P F_clipJ [jsA ex l] [] (jsA true l) [] := by
 refine in_clipJ (W := w_clipJ) rfl 0 (by simp) rfl (fun id h => absurd rfl h) fun D => ?_
 exact of_eq (clipJ_A ex l 0 _) ⟨⟨by omega, by omega, rfl, by omega⟩, post_tmp rfl (sm_dat (fun h => h) fun i _ => by rw [Nat.zero_add])⟩
theorem jb_row {q : List Jb} {j : Jb} {i : Nat} (hi : i < q.length + 1) : cat q.length (fun (i : Nat) => jbA (jbAt q i)) (fun (i : Nat) => nthD [jbA j] (0 + i) (AV.v (Value.tuple (List.toArray [])))) (0 + i) = jbA (jbAt (q ++ [j]) i) := by
 unfold cat
 rw [Nat.zero_add]
 by_cases h : i < q.length
 ·rw [if_pos h]
  have e : jbAt (q ++ [j]) i = jbAt q i := by
   unfold jbAt
   rw [List.getD_eq_getElem?_getD, List.getD_eq_getElem?_getD, List.getElem?_append_left h]
  rw [e]
 ·rw [if_neg h]
  obtain rfl : i = q.length := by omega
  have e : jbAt (q ++ [j]) q.length = j := by
   unfold jbAt
   rw [List.getD_eq_getElem?_getD, List.getElem?_append_right (Nat.le_refl _), Nat.sub_self]; rfl
  rw [e, Nat.sub_self]; rfl
theorem push_fun (ex ey : Bool) (d : Dk) (j : Jb) (hn : d.q.length < 2 ^ 38) : Fun C P F_push [dkA ex ey d, jbA j] [] (dkA false false (pushD d j)) [] := by
 refine in_push (W := w_push) rfl 0 (by simp) rfl (fun id h => absurd rfl h) fun D => ?_
 exact of_eq (push_A ex ey d j 0 _) ⟨clipJ_fun ey d.q (by omega), .inr (by decide), by omega, ⟨⟨rfl, rfl⟩, ⟨rfl, rfl⟩, trivial⟩, post_frz [10] (post_cell rfl rfl (sm_st (sms_cons (sm_dat (by simp) fun i _ => rfl) (sms_cons (sm_dat' (by simp [pushD]) (by simp) fun i hi => jb_row hi) sms_nil))) rfl)⟩
theorem idxL_hit {p : Cl → Bool} {l : List Cl} {i : Nat} (hi : i < l.length) (h1 : ∀ k, k < i → p (clAt l k) = false) (h2 : p (clAt l i) = true) : idxL p l = (i : Nat) := by
 unfold idxL
 have ha : l.any p = true := List.any_eq_true.2 ⟨l[i], List.getElem_mem hi, by rw [← clAt_lt hi]; exact h2⟩
 rw [if_pos ha]
 congr 1
 exact tw_len (d := cl0) (by omega) (fun k hk => by simp only [show p (l.getD k cl0) = false from h1 k hk]; rfl) fun _ => by simp only [show p (l.getD i cl0) = true from h2]; rfl
theorem idxL_no {p : Cl → Bool} {l : List Cl} (h1 : ∀ k, k < l.length → p (clAt l k) = false) : idxL p l = -1 := by
 unfold idxL
 have ha : l.any p = false := by
  rw [List.any_eq_false]
  intro a ha
  obtain ⟨k, hk, rfl⟩ := List.getElem_of_mem ha
  have := h1 k hk
  rw [clAt_lt hk] at this
  rw [this]; simp
 rw [if_neg (by rw [ha]; simp)]
theorem idxF_fun (ex : Bool) (l : List Cl) (j : Jb) (hn : l.length < 2 ^ 60) : Fun C P F_idxF [csA ex l, .fn (.func 67) [.pd (jbA j)]] [] (.i (idxL (hitP j) l)) [] := by
 refine in_idxF (W := w_idxF) rfl 0 (by simp) rfl (fun id h => absurd rfl h) fun D => ?_
 refine of_eq (idxF_A ex l j 0 _) ?_
 refine loop_inv (W := w_idxF) ctx mixed ok_idxF_0 (I_ixJ ex l j) (fun i => i ≤ l.length ∧ ∀ k, k < i → hitP j (clAt l k) = false) (fun i => l.length - i) 0 ⟨Nat.zero_le _, fun k hk => absurd hk (Nat.not_lt_zero k)⟩ ?_ fun i hi => ?_
 ·exact ent_of [] rfl (tm_cons rfl (sm_same rfl) (tm_cons rfl (sm_same rfl) (tm_cons rfl (sm_same rfl) (tm_cons rfl (sm_same rfl) tm_nil)))) hp_nil
 obtain ⟨h1, h2⟩ := hi
 refine of_eq (idxF_L0 ex l j i 0 _) ⟨fun h => ?_, fun h => ?_⟩
 ·simp only [decide_eq_true_eq] at h
  have hi : i < l.length := by omega
  rw [toJb_A, toCl_A]
  refine ⟨(by first | omega | decide | (unfold I64; omega)), perf1_fun _ _, trivial, fun h3 => ?_, fun h3 => ⟨(by first | omega | decide | (unfold I64; omega)), round_end (i + 1) ⟨by omega, fun k hk => ?_⟩ (ent_of [] rfl (tm_cons rfl (sm_same rfl) (tm_cons rfl (sm_same rfl) (tm_cons rfl (sm_same rfl) (tm_cons rfl (sm_same rfl) tm_nil)))) hp_nil) (by dsimp only; omega)⟩⟩
  ·rw [idxL_hit hi h2 h3]
   exact post_tmp rfl (sm_int rfl)
  ·by_cases e : k = i
   ·rw [e]; exact h3
   ·exact h2 k (by omega)
 ·simp only [decide_eq_false_iff_not] at h
  rw [idxL_no fun k hk => h2 k (by omega)]
  exact post_tmp rfl (sm_int rfl)
theorem idxW_fun (ex : Bool) (l : List Cl) (hn : l.length < 2 ^ 60) (hs : ∀ c, c ∈ l → Small c.b ∧ c.b.length < 2 ^ 40) : Fun C P F_idxW [csA ex l, .fn (.func 51) []] [] (.i (idxL whC l)) [] := by
 refine in_idxW (W := w_idxW) rfl 0 (by simp) rfl (fun id h => absurd rfl h) fun D => ?_
 refine of_eq (idxW_A ex l 0 _) ?_
 refine loop_inv (W := w_idxW) ctx mixed ok_idxW_0 (I_ixW ex l) (fun i => i ≤ l.length ∧ ∀ k, k < i → whC (clAt l k) = false) (fun i => l.length - i) 0 ⟨Nat.zero_le _, fun k hk => absurd hk (Nat.not_lt_zero k)⟩ ?_ fun i hi => ?_
 ·exact ent_of [] rfl (tm_cons rfl (sm_same rfl) (tm_cons rfl (sm_same rfl) (tm_cons rfl (sm_same rfl) (tm_cons rfl (sm_same rfl) tm_nil)))) hp_nil
 obtain ⟨h1, h2⟩ := hi
 refine of_eq (idxW_L0 ex l i 0 _) ⟨fun h => ?_, fun h => ?_⟩
 ·simp only [decide_eq_true_eq] at h
  have hi : i < l.length := by omega
  have hm := hs (clAt l i) (by rw [clAt_lt hi]; exact List.getElem_mem hi)
  rw [toCl_A]
  refine ⟨(by first | omega | decide | (unfold I64; omega)), whole_fun _ hm.1 hm.2, trivial, fun h3 => ?_, fun h3 => ⟨(by first | omega | decide | (unfold I64; omega)), round_end (i + 1) ⟨by omega, fun k hk => ?_⟩ (ent_of [] rfl (tm_cons rfl (sm_same rfl) (tm_cons rfl (sm_same rfl) (tm_cons rfl (sm_same rfl) (tm_cons rfl (sm_same rfl) tm_nil)))) hp_nil) (by dsimp only; omega)⟩⟩
  ·rw [idxL_hit hi h2 h3]
   exact post_tmp rfl (sm_int rfl)
  ·by_cases e : k = i
   ·rw [e]; exact h3
   ·exact h2 k (by omega)
 ·simp only [decide_eq_false_iff_not] at h
  rw [idxL_no fun k hk => h2 k (by omega)]
  exact post_tmp rfl (sm_int rfl)
end Go.Bu.W

