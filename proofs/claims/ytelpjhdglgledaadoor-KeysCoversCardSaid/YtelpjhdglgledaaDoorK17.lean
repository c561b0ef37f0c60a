/- Elements of a tree of keys; what is computed of one. -/
import Derived.Test.YtelpjhdglgledaaDoorK16
import Derived.Test.YtelpjhdglgledaaDoorK13
namespace Go.Bu.W
open Sp
structure Cv where
  d : Int
  a : Int
  k : Nat → Nat
def c0 : Cv := ⟨0, 0, fun _ => 0⟩
abbrev cvA (c : Cv) : AV := .st [.i c.d, .i c.a, .arr 32 1 (fun i => u8 (c.k i))]
def cAt (l : List Cv) (i : Nat) : Cv := l.getD i c0
abbrev kA (ex : Bool) (l : List Cv) : AV := .dat l.length ex 34 (fun i => cvA (cAt l i))
abbrev ksA (ex : Bool) (l : List Cv) : AV := .st [kA ex l]
abbrev kyA (k : Nat → Nat) : AV := .arr 32 1 (fun i => u8 (k i))
abbrev Sh32 : Prop := ((32 = 32) ∧ ((1 = 1) ∧ (∀ (i : Nat), ((i < 32) → ((true = true) ∧ (true = true))))))
abbrev ShC : Prop := (((true = true) ∧ (true = true)) ∧ (((true = true) ∧ (true = true)) ∧ ((Sh32) ∧ True)))
theorem sh32_t : Sh32 := ⟨rfl, rfl, fun _ _ => ⟨rfl, rfl⟩⟩
theorem shC_t : ShC := ⟨⟨rfl, rfl⟩, ⟨rfl, rfl⟩, sh32_t, trivial⟩
def toCv : AV → Cv
  | .st [x, y, .arr _ _ f] => ⟨asI x, asI y, dN f⟩
  | _ => c0
def toCs : AV → List Cv
  | .dat n _ _ f => (List.range n).map fun i => toCv (f i)
  | _ => []
def toKs : AV → List Cv
  | .st [x] => toCs x
  | _ => []
theorem toCv_A (c : Cv) : toCv (cvA c) = c := rfl
theorem toCs_A (ex : Bool) (l : List Cv) : toCs (kA ex l) = l := by
  unfold toCs
  apply List.ext_getElem
  · simp
  · intro i h1 h2
    simp only [List.getElem_map, List.getElem_range, toCv_A, cAt]
    simp [List.getD_eq_getElem?_getD, List.getElem?_eq_getElem h2]
theorem toKs_A (ex : Bool) (l : List Cv) : toKs (ksA ex l) = l := toCs_A ex l
def szI (d : Int) : Int := bShr .i64 4096 d
def chK (k : Nat → Nat) (i : Nat) : Nat → Nat := sumN (ofBytes 75 [(List.range 32).map k, [i]])
def chC (c : Cv) (i : Nat) : Cv := ⟨c.d + 1, 2 * c.a + i, chK c.k i⟩
def sideI (c : Cv) (id : Int) : Int := (id.tdiv (szI (c.d + 1))).tmod 2
def sideN (c : Cv) (id : Int) : Nat := (sideI c id).toNat
def stepC (c : Cv) (id : Int) : Cv := chC c (sideN c id)
/-- The sibling of the element below, on the way to a chunk. -/
def sibC (c : Cv) (id : Int) : Cv := chC c (Int.toNat (1 - sideI c id))
def stB (c : Cv) (id : Int) : Bool := decide (0 ≤ id) && decide (id < 4096) && (id.tdiv (szI c.d) == c.a)
def cmpC (c : Cv) (id : Int) : Int := if id < c.a * szI c.d then 1 else if c.a * szI c.d + szI c.d ≤ id then -1 else 0
def crSize : List AV → Option (AV × List (Nat × Blk))
  | [x] => some (.i (szI (asI x)), [])
  | _ => none
def crBelow : List AV → Option (AV × List (Nat × Blk))
  | [x, i] => some (cvA (chC (toCv x) (asN i)), [])
  | _ => none
def crSide : List AV → Option (AV × List (Nat × Blk))
  | [x, i] => some (.i (sideI (toCv x) (asI i)), [])
  | _ => none
def crStands : List AV → Option (AV × List (Nat × Blk))
  | [x, i] => some (.sb (stB (toCv x) (asI i)), [])
  | _ => none
def crFind1 : List AV → Option (AV × List (Nat × Blk))
  | [x, i] => some (.i (cmpC (toCv x) (asI i)), [])
  | _ => none
def crS1 (g : Nat) (args : List AV) (H : List (Nat × Blk)) : Option (AV × List (Nat × Blk)) :=
  sel (Nat.beq g F_size) (crSize args) <| sel (Nat.beq g F_rsize) (crSize args) <| sel (Nat.beq g F_below) (crBelow args) <| sel (Nat.beq g F_follow) (crBelow args) <| sel (Nat.beq g F_side) (crSide args) <|
  sel (Nat.beq g F_stands) (crStands args) <| sel (Nat.beq g F_find1) (crFind1 args) <| sel (Nat.beq g F_rof) (crOf args) <| sel (Nat.beq g F_rsum) (crSum args) <| crLaw g args H
def wayA (keep : List Nat) (nt : Nat) (cuts : List Nat) : Way := ⟨crS1, fun _ => false, keep, [], nt, cuts, []⟩
def w_size : Way := wayA [0, 2] 5 []
def w_rsize : Way := wayA [0, 2] 5 []
def w_below : Way := wayA [0, 1, 2, 4] 21 []
def w_follow : Way := wayA [0, 1, 2, 4] 21 []
def w_side : Way := wayA [0, 1, 2, 4] 12 []
def w_stands : Way := wayA [0, 1, 2, 4] 21 []
def w_find1 : Way := wayA [0, 1, 2, 4, 5, 12, 16] 24 []

set_option maxRecDepth 1000000 in
theorem size_A (d : Int) {D : Dom} (K : Nat) (Φ : Ex → St → Prop) :
  (Holds C P 5 D K Φ (vc C w_size b_size [] (start [.i d] []) lf)) =
  (((0 : Int) ≤ d) ∧
 (Φ Ex.ret (St.mk [(0, (AV.i d)), (2, (AV.i (bShr IntKind.i64 (4096 : Int) d)))] [] []))) := by kernel_rfl
set_option maxRecDepth 1000000 in
theorem rsize_A (d : Int) {D : Dom} (K : Nat) (Φ : Ex → St → Prop) :
  (Holds C P 5 D K Φ (vc C w_rsize b_rsize [] (start [.i d] []) lf)) =
  (((0 : Int) ≤ d) ∧
 (Φ Ex.ret (St.mk [(0, (AV.i d)), (2, (AV.i (bShr IntKind.i64 (4096 : Int) d)))] [] []))) := by kernel_rfl
theorem below_A (c : Cv) (i : Nat) {D : Dom} (K : Nat) (Φ : Ex → St → Prop) :
  (Holds C P 21 D K Φ (vc C w_below b_below [] (start [cvA c, i64 i] []) lf)) =
  ((I64 ((W.Cv.d c) + (1 : Int))) ∧
 ((I64 ((2 : Int) * (W.Cv.a c))) ∧
 ((I64 (((2 : Int) * (W.Cv.a c)) + ((i : Nat) : Int))) ∧
 ((((0 : Int) ≤ (0 : Int)) ∧ (((0 : Int) ≤ (32 : Int)) ∧ ((32 : Int) ≤ (32 : Int)))) ∧
 (Fun W.C W.P 61 [(AV.v (Value.int IntKind.u8 (75 : Int))), (AV.dat 2 false 1 (fun (i1 : Nat) => (nthD [(AV.dat 32 false 1 (fun (i2 : Nat) => (AV.v (Value.int IntKind.u8 (((W.Cv.k c (0 + i2)) : Nat) : Int))))), (AV.dat 1 false 1 (fun (i2 : Nat) => (nthD [(AV.v (Value.int IntKind.u8 (IntKind.wrap IntKind.u8 ((i : Nat) : Int))))] (0 + i2) (AV.v (Value.tuple (List.toArray []))))))] (0 + i1) (AV.v (Value.tuple (List.toArray []))))))] [] (W.kyA (Sp.sumN (Sp.ofBytes 75 (partsL 2 (fun (i2 : Nat) => (nthD [(AV.dat 32 false 1 (fun (i3 : Nat) => (AV.v (Value.int IntKind.u8 (((W.Cv.k c (0 + i3)) : Nat) : Int))))), (AV.dat 1 false 1 (fun (i3 : Nat) => (nthD [(AV.v (Value.int IntKind.u8 (IntKind.wrap IntKind.u8 ((i : Nat) : Int))))] (0 + i3) (AV.v (Value.tuple (List.toArray []))))))] (0 + i2) (AV.v (Value.tuple (List.toArray []))))))))) [] ∧
 ((∀ (i1 : Nat), ((i1 < 32) → True)) ∧
 ((W.ShC) ∧
 (Φ Ex.ret (St.mk [(0, (W.cvA c)), (1, (AV.i ((i : Nat) : Int))), (2, (AV.ptr 2 [])), (4, (AV.ptr 4 []))] [(2, (Blk.c (W.cvA c))), (4, (Blk.c (AV.st [(AV.i ((W.Cv.d c) + (1 : Int))), (AV.i (((2 : Int) * (W.Cv.a c)) + ((i : Nat) : Int))), (W.kyA (Sp.sumN (Sp.ofBytes 75 (partsL 2 (fun (i2 : Nat) => (nthD [(AV.dat 32 false 1 (fun (i3 : Nat) => (AV.v (Value.int IntKind.u8 (((W.Cv.k c (0 + i3)) : Nat) : Int))))), (AV.dat 1 false 1 (fun (i3 : Nat) => (nthD [(AV.v (Value.int IntKind.u8 (IntKind.wrap IntKind.u8 ((i : Nat) : Int))))] (0 + i3) (AV.v (Value.tuple (List.toArray []))))))] (0 + i2) (AV.v (Value.tuple (List.toArray [])))))))))]))), (17, (Blk.c (AV.st [(AV.v (Value.int IntKind.u8 (IntKind.wrap IntKind.u8 ((i : Nat) : Int))))]))), (18, (Blk.c (AV.st [(AV.sl 2 [2] 0 32 32 true 1), (AV.sl 17 [] 0 1 1 true 1)])))] [18, 17, 4, 2]))))))))) := by kernel_rfl
theorem follow_A (c : Cv) (i : Nat) {D : Dom} (K : Nat) (Φ : Ex → St → Prop) :
  (Holds C P 21 D K Φ (vc C w_follow b_follow [] (start [cvA c, i64 i] []) lf)) =
  ((I64 ((W.Cv.d c) + (1 : Int))) ∧
 ((I64 ((2 : Int) * (W.Cv.a c))) ∧
 ((I64 (((2 : Int) * (W.Cv.a c)) + ((i : Nat) : Int))) ∧
 ((((0 : Int) ≤ (0 : Int)) ∧ (((0 : Int) ≤ (32 : Int)) ∧ ((32 : Int) ≤ (32 : Int)))) ∧
 (Fun W.C W.P 21 [(AV.v (Value.int IntKind.u8 (75 : Int))), (AV.dat 2 false 1 (fun (i1 : Nat) => (nthD [(AV.dat 32 false 1 (fun (i2 : Nat) => (AV.v (Value.int IntKind.u8 (((W.Cv.k c (0 + i2)) : Nat) : Int))))), (AV.dat 1 false 1 (fun (i2 : Nat) => (nthD [(AV.v (Value.int IntKind.u8 (IntKind.wrap IntKind.u8 ((i : Nat) : Int))))] (0 + i2) (AV.v (Value.tuple (List.toArray []))))))] (0 + i1) (AV.v (Value.tuple (List.toArray []))))))] [] (W.kyA (Sp.sumN (Sp.ofBytes 75 (partsL 2 (fun (i2 : Nat) => (nthD [(AV.dat 32 false 1 (fun (i3 : Nat) => (AV.v (Value.int IntKind.u8 (((W.Cv.k c (0 + i3)) : Nat) : Int))))), (AV.dat 1 false 1 (fun (i3 : Nat) => (nthD [(AV.v (Value.int IntKind.u8 (IntKind.wrap IntKind.u8 ((i : Nat) : Int))))] (0 + i3) (AV.v (Value.tuple (List.toArray []))))))] (0 + i2) (AV.v (Value.tuple (List.toArray []))))))))) [] ∧
 ((∀ (i1 : Nat), ((i1 < 32) → True)) ∧
 ((W.ShC) ∧
 (Φ Ex.ret (St.mk [(0, (W.cvA c)), (1, (AV.i ((i : Nat) : Int))), (2, (AV.ptr 2 [])), (4, (AV.ptr 4 []))] [(2, (Blk.c (W.cvA c))), (4, (Blk.c (AV.st [(AV.i ((W.Cv.d c) + (1 : Int))), (AV.i (((2 : Int) * (W.Cv.a c)) + ((i : Nat) : Int))), (W.kyA (Sp.sumN (Sp.ofBytes 75 (partsL 2 (fun (i2 : Nat) => (nthD [(AV.dat 32 false 1 (fun (i3 : Nat) => (AV.v (Value.int IntKind.u8 (((W.Cv.k c (0 + i3)) : Nat) : Int))))), (AV.dat 1 false 1 (fun (i3 : Nat) => (nthD [(AV.v (Value.int IntKind.u8 (IntKind.wrap IntKind.u8 ((i : Nat) : Int))))] (0 + i3) (AV.v (Value.tuple (List.toArray []))))))] (0 + i2) (AV.v (Value.tuple (List.toArray [])))))))))]))), (17, (Blk.c (AV.st [(AV.v (Value.int IntKind.u8 (IntKind.wrap IntKind.u8 ((i : Nat) : Int))))]))), (18, (Blk.c (AV.st [(AV.sl 2 [2] 0 32 32 true 1), (AV.sl 17 [] 0 1 1 true 1)])))] [18, 17, 4, 2]))))))))) := by kernel_rfl
theorem side_A (c : Cv) (i : Int) {D : Dom} (K : Nat) (Φ : Ex → St → Prop) :
  (Holds C P 12 D K Φ (vc C w_side b_side [] (start [cvA c, .i i] []) lf)) =
  ((I64 ((W.Cv.d c) + (1 : Int))) ∧
 (Fun W.C W.P 39 [(AV.i ((W.Cv.d c) + (1 : Int)))] [] (AV.i (W.szI ((W.Cv.d c) + (1 : Int)))) [] ∧
 (True ∧
 (((W.szI ((W.Cv.d c) + (1 : Int))) ≠ (0 : Int)) ∧
 ((I64 (Int.tdiv i (W.szI ((W.Cv.d c) + (1 : Int))))) ∧
 (((2 : Int) ≠ (0 : Int)) ∧
 (Φ Ex.ret (St.mk [(0, (W.cvA c)), (1, (AV.i i)), (2, (AV.ptr 2 [])), (4, (AV.i (W.sideI c i)))] [(2, (Blk.c (W.cvA c)))] [2])))))))) := by kernel_rfl
set_option maxRecDepth 1000000 in
theorem stands_A (c : Cv) (i : Int) {D : Dom} (K : Nat) (Φ : Ex → St → Prop) :
  (Holds C P 21 D K Φ (vc C w_stands b_stands [] (start [cvA c, .i i] []) lf)) =
  (((decide (i ≥ (0 : Int))) = true →
 (((decide (i < (4096 : Int))) = true →
  (Fun W.C W.P 39 [(AV.i (W.Cv.d c))] [] (AV.i (W.szI (W.Cv.d c))) [] ∧
   (True ∧
   (((W.szI (W.Cv.d c)) ≠ (0 : Int)) ∧
   ((I64 (Int.tdiv i (W.szI (W.Cv.d c)))) ∧
   (Φ Ex.ret (St.mk [(0, (W.cvA c)), (1, (AV.i i)), (2, (AV.ptr 2 [])), (4, (AV.sb ((Int.tdiv i (W.szI (W.Cv.d c))) == (W.Cv.a c))))] [(2, (Blk.c (W.cvA c)))] [2]))))))) ∧
  ((decide (i < (4096 : Int))) = false →
  (Φ Ex.ret (St.mk [(0, (W.cvA c)), (1, (AV.i i)), (2, (AV.ptr 2 [])), (4, (AV.v (Value.bool false)))] [(2, (Blk.c (W.cvA c)))] [2]))))) ∧
 ((decide (i ≥ (0 : Int))) = false →
 (Φ Ex.ret (St.mk [(0, (W.cvA c)), (1, (AV.i i)), (2, (AV.ptr 2 [])), (4, (AV.v (Value.bool false)))] [(2, (Blk.c (W.cvA c)))] [2])))) := by kernel_rfl
theorem find1_A (c : Cv) (i : Int) {D : Dom} (K : Nat) (Φ : Ex → St → Prop) :
  (Holds C P 24 D K Φ (vc C w_find1 b_find1 [] (start [cvA c, .i i] []) lf)) =
  (Fun W.C W.P 45 [(AV.i (W.Cv.d c))] [] (AV.i (W.szI (W.Cv.d c))) [] ∧
 (True ∧
 ((I64 ((W.Cv.a c) * (W.szI (W.Cv.d c)))) ∧
 (((decide (i < ((W.Cv.a c) * (W.szI (W.Cv.d c))))) = true →
 (Φ Ex.ret (St.mk [(0, (W.cvA c)), (1, (AV.i i)), (2, (AV.ptr 2 [])), (4, (AV.i (1 : Int))), (5, (AV.i ((W.Cv.a c) * (W.szI (W.Cv.d c))))), (12, (AV.v (Value.bool true)))] [(2, (Blk.c (W.cvA c)))] [2]))) ∧
 ((decide (i < ((W.Cv.a c) * (W.szI (W.Cv.d c))))) = false →
 (Fun W.C W.P 45 [(AV.i (W.Cv.d c))] [] (AV.i (W.szI (W.Cv.d c))) [] ∧
  (True ∧
  ((I64 (((W.Cv.a c) * (W.szI (W.Cv.d c))) + (W.szI (W.Cv.d c)))) ∧
  (((decide (i ≥ (((W.Cv.a c) * (W.szI (W.Cv.d c))) + (W.szI (W.Cv.d c))))) = true →
  (Φ Ex.ret (St.mk [(0, (W.cvA c)), (1, (AV.i i)), (2, (AV.ptr 2 [])), (4, (AV.i (-1 : Int))), (5, (AV.i ((W.Cv.a c) * (W.szI (W.Cv.d c))))), (12, (AV.v (Value.bool false))), (16, (AV.v (Value.bool true)))] [(2, (Blk.c (W.cvA c)))] [2]))) ∧
  ((decide (i ≥ (((W.Cv.a c) * (W.szI (W.Cv.d c))) + (W.szI (W.Cv.d c))))) = false →
  (Φ Ex.ret (St.mk [(0, (W.cvA c)), (1, (AV.i i)), (2, (AV.ptr 2 [])), (4, (AV.i (0 : Int))), (5, (AV.i ((W.Cv.a c) * (W.szI (W.Cv.d c))))), (12, (AV.v (Value.bool false))), (16, (AV.v (Value.bool false)))] [(2, (Blk.c (W.cvA c)))] [2])))))))))))) := by kernel_rfl

def CvOK (c : Cv) : Prop := 0 ≤ c.d ∧ c.d ≤ 12 ∧ 0 ≤ c.a ∧ c.a < 2 ^ c.d.toNat ∧ ∀ i, i < 32 → c.k i < 256
theorem szN : ∀ n : Nat, n < 13 → szI n = ((2 ^ (12 - n) : Nat) : Int) := by decide
theorem sz_mul {d : Int} (h0 : 0 ≤ d) (h : d ≤ 12) : 2 ^ d.toNat * szI d = 4096 ∧ 1 ≤ szI d := by
  obtain ⟨n, rfl⟩ : ∃ n : Nat, d = n := ⟨d.toNat, by omega⟩
  rw [szN n (by omega), Int.toNat_natCast]
  have e : 2 ^ n * 2 ^ (12 - n) = 4096 := by rw [← Nat.pow_add, show n + (12 - n) = 12 by omega]
  have h1 : 1 ≤ 2 ^ (12 - n) := Nat.one_le_two_pow
  refine ⟨?_, by omega⟩
  have : ((2 ^ n * 2 ^ (12 - n) : Nat) : Int) = 4096 := by rw [e]; rfl
  rw [← this]; simp
theorem sz_succ {d : Int} (h0 : 0 ≤ d) (h : d < 12) : szI d = 2 * szI (d + 1) := by
  obtain ⟨n, rfl⟩ : ∃ n : Nat, d = n := ⟨d.toNat, by omega⟩
  rw [show ((n : Int) + 1) = ((n + 1 : Nat) : Int) by omega, szN n (by omega), szN (n + 1) (by omega), show 12 - n = (12 - (n + 1)) + 1 by omega, Nat.pow_succ]
  omega
theorem sz_le {d : Int} (h0 : 0 ≤ d) (h : d ≤ 12) : szI d ≤ 4096 := by
  obtain ⟨h1, h2⟩ := sz_mul h0 h
  have : szI d * 1 ≤ szI d * 2 ^ d.toNat := Int.mul_le_mul_of_nonneg_left (by have : (0 : Int) < 2 ^ d.toNat := Int.pow_pos (by decide); omega) (by omega)
  rw [Int.mul_comm (szI d) (2 ^ _)] at this
  omega
theorem cvb_facts {c : Cv} (h0 : 0 ≤ c.d) (h1 : c.d ≤ 12) (h2 : 0 ≤ c.a) (h3 : c.a < 2 ^ c.d.toNat) : 0 ≤ c.a * szI c.d ∧ c.a * szI c.d + szI c.d ≤ 4096 ∧ 1 ≤ szI c.d ∧ szI c.d ≤ 4096 ∧ c.a ≤ 4095 := by
  obtain ⟨g1, g2⟩ := sz_mul h0 h1
  have e1 : (c.a + 1) * szI c.d ≤ 2 ^ c.d.toNat * szI c.d := Int.mul_le_mul_of_nonneg_right (by omega) (by omega)
  rw [g1, Int.add_mul] at e1
  have e2 := Int.mul_nonneg h2 (show 0 ≤ szI c.d by omega)
  have e3 : c.a * 1 ≤ c.a * szI c.d := Int.mul_le_mul_of_nonneg_left g2 h2
  refine ⟨e2, by omega, g2, sz_le h0 h1, by omega⟩
theorem cv_facts {c : Cv} (h : CvOK c) : 0 ≤ c.a * szI c.d ∧ c.a * szI c.d + szI c.d ≤ 4096 ∧ 1 ≤ szI c.d ∧ szI c.d ≤ 4096 ∧ c.a ≤ 4095 := cvb_facts h.1 h.2.1 h.2.2.1 h.2.2.2.1
theorem size_fun (d : Int) (h : 0 ≤ d) : Fun C P F_size [.i d] [] (.i (szI d)) [] := by
  refine in_size (W := w_size) rfl 0 (by simp) rfl (fun id h => absurd rfl h) fun D => ?_
  exact of_eq (size_A d 0 _) ⟨h, post_tmp rfl (sm_int rfl)⟩
theorem rsize_fun (d : Int) (h : 0 ≤ d) : Fun C P F_rsize [.i d] [] (.i (szI d)) [] := by
  refine in_rsize (W := w_rsize) rfl 0 (by simp) rfl (fun id h => absurd rfl h) fun D => ?_
  exact of_eq (rsize_A d 0 _) ⟨h, post_tmp rfl (sm_int rfl)⟩
theorem parts_ch (k : Nat → Nat) (i : Nat) (hi : i < 256) : partsL 2 (fun (i1 : Nat) => (nthD [(AV.dat (32 : Nat) false (1 : Nat) (fun (i2 : Nat) => (AV.v (Value.int IntKind.u8 (((k ((0 : Nat) + i2)) : Nat) : Int))))), (AV.dat (1 : Nat) false (1 : Nat) (fun (i2 : Nat) => (nthD [(AV.v (Value.int IntKind.u8 (IntKind.wrap IntKind.u8 ((i : Nat) : Int))))] ((0 : Nat) + i2) (AV.v (Value.tuple (List.toArray []))))))] ((0 : Nat) + i1) (AV.v (Value.tuple (List.toArray []))))) = [(List.range 32).map k, [i]] := by
  have e1 : bytesL 32 (fun i2 => (AV.v (Value.int IntKind.u8 ((k (0 + i2) : Nat) : Int)))) = (List.range 32).map k := by
    rw [bytesL_nat (g := k) fun i _ => by rw [Nat.zero_add]]
  have e2 : IntKind.wrap IntKind.u8 ((i : Nat) : Int) = (i : Int) := by rw [wrap_u8, Nat.mod_eq_of_lt hi]
  show [bytesL 32 (fun i2 => (AV.v (Value.int IntKind.u8 ((k (0 + i2) : Nat) : Int)))), [asN (AV.v (Value.int IntKind.u8 (IntKind.wrap IntKind.u8 ((i : Nat) : Int))))]] = _
  rw [e1, e2]; rfl
theorem ch_small {k : Nat → Nat} {i : Nat} (hk : ∀ j, j < 32 → k j < 256) (hi : i < 256) : Parts 2 (fun (i1 : Nat) => (nthD [(AV.dat (32 : Nat) false (1 : Nat) (fun (i2 : Nat) => (AV.v (Value.int IntKind.u8 (((k ((0 : Nat) + i2)) : Nat) : Int))))), (AV.dat (1 : Nat) false (1 : Nat) (fun (i2 : Nat) => (nthD [(AV.v (Value.int IntKind.u8 (IntKind.wrap IntKind.u8 ((i : Nat) : Int))))] ((0 : Nat) + i2) (AV.v (Value.tuple (List.toArray []))))))] ((0 : Nat) + i1) (AV.v (Value.tuple (List.toArray []))))) := fun j hj => by
  match j, hj with
  | 0, _ => exact ⟨32, false, 1, _, rfl, .inr rfl, fun m hm => ⟨rfl, hk _ (by omega)⟩⟩
  | 1, _ =>
    refine ⟨1, false, 1, _, rfl, .inr rfl, fun m hm => ?_⟩
    obtain rfl : m = 0 := by omega
    have e2 : IntKind.wrap IntKind.u8 ((i : Nat) : Int) = (i : Int) := by rw [wrap_u8, Nat.mod_eq_of_lt hi]
    show AV.v (Value.int IntKind.u8 (IntKind.wrap IntKind.u8 ((i : Nat) : Int))) = u8 (asN (AV.v (Value.int IntKind.u8 (IntKind.wrap IntKind.u8 ((i : Nat) : Int))))) ∧ asN (AV.v (Value.int IntKind.u8 (IntKind.wrap IntKind.u8 ((i : Nat) : Int)))) < 256
    rw [e2]; exact ⟨rfl, hi⟩
theorem ch_len (k : Nat → Nat) (i : Nat) : (ofBytes 75 [(List.range 32).map k, [i]]).length < 2 ^ 46 := by
  simp [ofBytes, eightL]
theorem ch_ok {c : Cv} (h : CvOK c) (hd : c.d < 12) (i : Nat) (hi : i < 2) : CvOK (chC c i) := by
  obtain ⟨h0, h1, h2, h3, _⟩ := h
  refine ⟨by show 0 ≤ c.d + 1; omega, by show c.d + 1 ≤ 12; omega, by show 0 ≤ 2 * c.a + (i : Int); omega, ?_, fun j _ => sumN_lt _ _⟩
  show 2 * c.a + (i : Int) < 2 ^ (c.d + 1).toNat
  rw [show (c.d + 1).toNat = c.d.toNat + 1 by omega, Int.pow_succ]
  omega
theorem below_fun (c : Cv) (h : CvOK c) (i : Nat) (hi : i < 2) : Fun C P F_below [cvA c, i64 i] [] (cvA (chC c i)) [] := by
  obtain ⟨f1, f2, f3, f4, f5⟩ := cv_facts h
  obtain ⟨g1, g2, g3, _, g5⟩ := h
  refine in_below (W := w_below) rfl 0 (by simp) rfl (fun id h => absurd rfl h) fun D => ?_
  refine of_eq (below_A c i 0 _) ?_
  have hp := parts_ch c.k i (by omega)
  have hf := of_call (tag := 75) (ex := false) (by decide) (ch_small g5 (show i < 256 by omega)) (.inr rfl) (by rw [hp]; exact ch_len _ _)
  refine ⟨(by first | omega | decide | (unfold I64; omega)), (by first | omega | decide | (unfold I64; omega)), (by first | omega | decide | (unfold I64; omega)), (by first | omega | decide | (unfold I64; omega)), hf, fun _ _ => trivial, shC_t, post_cell rfl rfl (sm_st (sms_cons (sm_int rfl) (sms_cons (sm_int rfl) (sms_cons (sm_arr fun j _ => ?_) sms_nil)))) rfl⟩
  rw [hp]; rfl
theorem follow_fun (c : Cv) (h : CvOK c) (i : Nat) (hi : i < 2) : Fun C P F_follow [cvA c, i64 i] [] (cvA (chC c i)) [] := by
  obtain ⟨f1, f2, f3, f4, f5⟩ := cv_facts h
  obtain ⟨g1, g2, g3, _, g5⟩ := h
  refine in_follow (W := w_follow) rfl 0 (by simp) rfl (fun id h => absurd rfl h) fun D => ?_
  refine of_eq (follow_A c i 0 _) ?_
  have hp := parts_ch c.k i (by omega)
  have hf := rof_call (tag := 75) (ex := false) (by decide) (ch_small g5 (show i < 256 by omega)) (.inr rfl) (by rw [hp]; exact ch_len _ _)
  refine ⟨(by first | omega | decide | (unfold I64; omega)), (by first | omega | decide | (unfold I64; omega)), (by first | omega | decide | (unfold I64; omega)), (by first | omega | decide | (unfold I64; omega)), hf, fun _ _ => trivial, shC_t, post_cell rfl rfl (sm_st (sms_cons (sm_int rfl) (sms_cons (sm_int rfl) (sms_cons (sm_arr fun j _ => ?_) sms_nil)))) rfl⟩
  rw [hp]; rfl
theorem tdiv_I64 {a b : Int} (ha : 0 ≤ a) (h : a < 4096) (hb : 1 ≤ b) : I64 (a.tdiv b) ∧ 0 ≤ a.tdiv b := by
  rw [Int.tdiv_eq_ediv_of_nonneg ha]
  have h1 := Int.ediv_nonneg ha (show 0 ≤ b by omega)
  have h2 := Int.ediv_le_self b ha
  exact ⟨⟨by omega, by omega⟩, h1⟩
theorem side_fun (c : Cv) (h : CvOK c) (hd : c.d < 12) (id : Int) (h0 : 0 ≤ id) (h1 : id < 4096) : Fun C P F_side [cvA c, .i id] [] (.i (sideI c id)) [] := by
  obtain ⟨g1, g2, _⟩ := h
  have hs := (sz_mul (d := c.d + 1) (by omega) (by omega)).2
  refine in_side (W := w_side) rfl 0 (by simp) rfl (fun id h => absurd rfl h) fun D => ?_
  exact of_eq (side_A c id 0 _) ⟨(by first | omega | decide | (unfold I64; omega)), rsize_fun _ (by omega), trivial, by omega, (tdiv_I64 h0 h1 hs).1, by decide, post_tmp rfl (sm_int rfl)⟩
theorem stands_fun (c : Cv) (h : CvOK c) (id : Int) : Fun C P F_stands [cvA c, .i id] [] (.sb (stB c id)) [] := by
  obtain ⟨g1, g2, _⟩ := h
  have hs := (sz_mul (d := c.d) (by omega) (by omega)).2
  refine in_stands (W := w_stands) rfl 0 (by simp) rfl (fun id h => absurd rfl h) fun D => ?_
  refine of_eq (stands_A c id 0 _) ⟨fun a1 => ⟨fun a2 => ⟨rsize_fun _ g1, trivial, by omega, (tdiv_I64 (of_decide_eq_true a1) (of_decide_eq_true a2) hs).1, post_tmp rfl (sm_sb ?_)⟩, fun a2 => post_tmp rfl (sm_b ?_)⟩, fun a1 => post_tmp rfl (sm_b ?_)⟩
  · unfold stB; rw [show decide (0 ≤ id) = true from a1, a2]; rfl
  · unfold stB; rw [a2, Bool.and_false]; rfl
  · unfold stB; rw [show decide (0 ≤ id) = false from a1]; rfl
theorem find1_fun (c : Cv) (h : CvOK c) (id : Int) : Fun C P F_find1 [cvA c, .i id] [] (.i (cmpC c id)) [] := by
  obtain ⟨f1, f2, f3, f4, f5⟩ := cv_facts h
  obtain ⟨g1, g2, _⟩ := h
  refine in_find1 (W := w_find1) rfl 0 (by simp) rfl (fun id h => absurd rfl h) fun D => ?_
  refine of_eq (find1_A c id 0 _) ⟨size_fun _ g1, trivial, (by first | omega | decide | (unfold I64; omega)), fun a1 => post_tmp rfl (sm_int ?_), fun a1 => ⟨size_fun _ g1, trivial, (by first | omega | decide | (unfold I64; omega)), fun a2 => post_tmp rfl (sm_int ?_), fun a2 => post_tmp rfl (sm_int ?_)⟩⟩
  · unfold cmpC; rw [if_pos (of_decide_eq_true a1)]
  · unfold cmpC; rw [if_neg (of_decide_eq_false a1), if_pos (of_decide_eq_true a2)]
  · unfold cmpC; rw [if_neg (of_decide_eq_false a1), if_neg (of_decide_eq_false a2)]
end Go.Bu.W

namespace Go.Bu.W
open Sp
def loC (c : Cv) : Int := c.a * szI c.d
def hiC (c : Cv) : Int := (c.a + 1) * szI c.d
def shl1 (d : Int) : Int := bShl .i64 1 d
def badC (c : Cv) (next : Int) : Bool := decide (c.d < 0) || decide (c.d > 12) || decide (c.a < 0) || decide (c.a ≥ shl1 c.d) || decide (loC c < next)
def validGo : Int → List Cv → Bool
  | _, [] => true
  | n, c :: r => if badC c n = true then false else validGo (hiC c) r
def validB (l : List Cv) : Bool := validGo 0 l
def findI (l : List Cv) (id : Int) : Nat := bsI (fun y => cmpC y id) l
def findB (l : List Cv) (id : Int) : Bool := bsB (fun y => cmpC y id) l
def inR (id : Int) : Bool := decide (0 ≤ id) && decide (id < 4096)
def hasB (l : List Cv) (id : Int) : Bool := inR id && findB l id
def atI (l : List Cv) (id : Int) : Int := if hasB l id then (findI l id : Nat) else -1
def leftI (l : List Cv) : Int := (l.map fun c => szI c.d).sum
def crBs : List AV → Option (AV × List (Nat × Blk))
  | [x, i, _] => some (.tup [.i (findI (toCs x) (asI i) : Nat), .sb (findB (toCs x) (asI i))], [])
  | _ => none
def crFind : List AV → Option (AV × List (Nat × Blk))
  | [x, i] => some (.tup [.i (if inR (asI i) then (findI (toKs x) (asI i) : Nat) else 0 : Int), .sb (hasB (toKs x) (asI i))], [])
  | _ => none
def crRFind : List AV → Option (AV × List (Nat × Blk))
  | [x, i] => some (.i (atI (toKs x) (asI i)), [])
  | _ => none
def crValid : List AV → Option (AV × List (Nat × Blk))
  | [x] => some (.sb (validB (toKs x)), [])
  | _ => none
def crLeftK : List AV → Option (AV × List (Nat × Blk))
  | [x] => some (.i (leftI (toKs x)), [])
  | _ => none
def crS2 (g : Nat) (args : List AV) (H : List (Nat × Blk)) : Option (AV × List (Nat × Blk)) :=
  sel (Nat.beq g F_bsS) (crBs args) <| sel (Nat.beq g F_find) (crFind args) <| sel (Nat.beq g F_rfind) (crRFind args) <| sel (Nat.beq g F_valid) (crValid args) <| sel (Nat.beq g F_rvalid) (crValid args) <|
  sel (Nat.beq g F_kleft) (crLeftK args) <| sel (Nat.beq g F_rkleft) (crLeftK args) <| crS1 g args H
def wayB (keep : List Nat) (nt : Nat) (cuts : List Nat) : Way := ⟨crS2, fun _ => false, keep, [], nt, cuts, []⟩
def w_valid : Way := wayB [0, 1, 2, 3, 5, 7, 8, 9, 10, 43] 52 []
def w_rvalid : Way := wayB [0, 1, 2, 3, 4, 5, 10, 48] 56 []
def w_bsS : Way := wayB [0, 1, 2, 6, 7, 8, 9, 10, 11, 17, 31] 49 []
def w_find : Way := wayB [0, 1, 2, 4, 5, 11] 18 []
def w_rfind : Way := wayB [0, 1, 2, 4, 5, 10, 19] 21 []
def w_kleft : Way := wayB [0, 1, 2, 3, 5, 7, 8, 9, 10] 20 []
def w_rkleft : Way := wayB [0, 1, 2, 3, 4, 9] 22 []
def nxt (l : List Cv) : Nat → Int
  | 0 => 0
  | i + 1 => hiC (cAt l i)
def I_bsS (ex : Bool) (l : List Cv) (x : Int) (s : Nat × Nat) : St := { tm := [(0, kA ex l), (1, .i x), (2, .fn (.func 52) []), (8, .i l.length), (9, .i s.1), (10, .i s.2)], hp := [], seen := [] }
def I_va (ex : Bool) (l : List Cv) (i : Nat) : St := { tm := [(1, .ptr 1 []), (3, .i (nxt l i)), (7, kA ex l), (8, .i l.length), (9, .i i)], hp := [(1, .c (ksA ex l))], seen := [1] }
def I_rva (ex : Bool) (l : List Cv) (i : Nat) : St := { tm := [(1, .ptr 1 []), (3, .i (nxt l i)), (4, .i i)], hp := [(1, .c (ksA ex l))], seen := [1] }
def I_rfi (ex : Bool) (l : List Cv) (x : Int) (i : Nat) : St := { tm := [(1, .i x), (2, .ptr 2 []), (5, .i i)], hp := [(2, .c (ksA ex l))], seen := [2] }
def I_kl (ex : Bool) (l : List Cv) (i : Nat) : St := { tm := [(1, .ptr 1 []), (3, .i (leftI (l.take i))), (7, kA ex l), (8, .i l.length), (9, .i i)], hp := [(1, .c (ksA ex l))], seen := [1] }
def I_rkl (ex : Bool) (l : List Cv) (i : Nat) : St := { tm := [(1, .ptr 1 []), (3, .i (leftI (l.take i))), (4, .i i)], hp := [(1, .c (ksA ex l))], seen := [1] }
def okTo (l : List Cv) (i : Nat) : Prop := i ≤ l.length ∧ (∀ k, k < i → badC (cAt l k) (nxt l k) = false) ∧ validB l = validGo (nxt l i) (l.drop i)

theorem bsS_A (ex : Bool) (l : List Cv) (x : Int) {D : Dom} (K : Nat) (Φ : Ex → St → Prop) :
  (Holds C P 49 D K Φ (vc C w_bsS b_bsS [] (start [kA ex l, .i x, .fn (.func 52) []] []) lf)) =
  (LoopOK W.C W.P 49 D K (bodyAt b_bsS [1, 1, 1, 0, 0]) (St.mk [(0, (W.kA ex l)), (1, (AV.i x)), (2, (AV.fn (Fn.func (52 : FuncId)) [])), (6, (AV.i (0 : Int))), (7, (AV.v (Value.bool false))), (8, (AV.i (((List.length l) : Nat) : Int))), (9, (AV.i (0 : Int))), (10, (AV.i (((List.length l) : Nat) : Int)))] [] []) (fun (e : Ex) (S' : St) => Holds W.C W.P 49 D K Φ (after W.C w_bsS b_bsS [1, 1, 1, 0, 0] [] lf e S'))) := by kernel_rfl
noncomputable abbrev bd_bsS_0 : Code := bodyAt (b_bsS) [1, 1, 1, 0, 0]
theorem ok_bsS_0 : codeOK bd_bsS_0 = true := by kernel_rfl
noncomputable abbrev rest_bsS_0 (D : Dom) (K : Nat) (Φ : Ex → St → Prop) : Ex → St → Prop := fun e S' => Holds C P 49 D K Φ (after C w_bsS (b_bsS) [1, 1, 1, 0, 0] [] lf e S')
theorem bsS_L0 (ex : Bool) (l : List Cv) (x : Int) (s : Nat × Nat) {D : Dom} (K : Nat) (Φ : Ex → St → Prop) :
  (Holds C P 49 D K (RoundQ C 49 D K (I_bsS ex l x) (fun s => s.1 ≤ s.2 ∧ s.2 ≤ l.length ∧ (∀ k, k < s.1 → cmpC (cAt l k) x < 0) ∧ ∀ k, s.2 ≤ k → k < l.length → 0 ≤ cmpC (cAt l k) x) (fun s => s.2 - s.1) ((fun s => s.2 - s.1) (s)) (rest_bsS_0 D K Φ)) (vc C w_bsS bd_bsS_0 [] ((I_bsS ex l x) (s)) lf)) =
  (((decide ((((Prod.fst s) : Nat) : Int) < (((Prod.snd s) : Nat) : Int))) = true →
 ((I64 ((((Prod.fst s) + (Prod.snd s)) : Nat) : Int)) ∧
  (((0 : Int) ≤ (1 : Int)) ∧
  ((I64 (bShr IntKind.u64 (IntKind.wrap IntKind.u64 ((((Prod.fst s) + (Prod.snd s)) : Nat) : Int)) (1 : Int))) ∧
  ((((0 : Int) ≤ (bShr IntKind.u64 (IntKind.wrap IntKind.u64 ((((Prod.fst s) + (Prod.snd s)) : Nat) : Int)) (1 : Int))) ∧ ((bShr IntKind.u64 (IntKind.wrap IntKind.u64 ((((Prod.fst s) + (Prod.snd s)) : Nat) : Int)) (1 : Int)) < (((List.length l) : Nat) : Int))) ∧
  (Fun W.C W.P (52 : FuncId) [(W.cvA (W.cAt l (Int.toNat (bShr IntKind.u64 (IntKind.wrap IntKind.u64 ((((Prod.fst s) + (Prod.snd s)) : Nat) : Int)) (1 : Int))))), (AV.i x)] [] (AV.i (W.cmpC (W.cAt l (Int.toNat (bShr IntKind.u64 (IntKind.wrap IntKind.u64 ((((Prod.fst s) + (Prod.snd s)) : Nat) : Int)) (1 : Int)))) x)) [] ∧
  (True ∧
  (((decide ((W.cmpC (W.cAt l (Int.toNat (bShr IntKind.u64 (IntKind.wrap IntKind.u64 ((((Prod.fst s) + (Prod.snd s)) : Nat) : Int)) (1 : Int)))) x) < (0 : Int))) = true →
  ((I64 ((bShr IntKind.u64 (IntKind.wrap IntKind.u64 ((((Prod.fst s) + (Prod.snd s)) : Nat) : Int)) (1 : Int)) + (1 : Int))) ∧
   ((RoundQ C 49 D K (I_bsS ex l x) (fun s => s.1 ≤ s.2 ∧ s.2 ≤ l.length ∧ (∀ k, k < s.1 → cmpC (cAt l k) x < 0) ∧ ∀ k, s.2 ≤ k → k < l.length → 0 ≤ cmpC (cAt l k) x) (fun s => s.2 - s.1) ((fun s => s.2 - s.1) (s)) (rest_bsS_0 D K Φ)) Ex.normal (St.mk [(0, (W.kA ex l)), (1, (AV.i x)), (2, (AV.fn (Fn.func (52 : FuncId)) [])), (8, (AV.i (((List.length l) : Nat) : Int))), (9, (AV.i ((bShr IntKind.u64 (IntKind.wrap IntKind.u64 ((((Prod.fst s) + (Prod.snd s)) : Nat) : Int)) (1 : Int)) + (1 : Int)))), (10, (AV.i (((Prod.snd s) : Nat) : Int))), (11, (AV.i (bShr IntKind.u64 (IntKind.wrap IntKind.u64 ((((Prod.fst s) + (Prod.snd s)) : Nat) : Int)) (1 : Int)))), (17, (AV.v (Value.bool true))), (31, (AV.v (Value.bool true)))] [] [])))) ∧
  ((decide ((W.cmpC (W.cAt l (Int.toNat (bShr IntKind.u64 (IntKind.wrap IntKind.u64 ((((Prod.fst s) + (Prod.snd s)) : Nat) : Int)) (1 : Int)))) x) < (0 : Int))) = false →
  ((RoundQ C 49 D K (I_bsS ex l x) (fun s => s.1 ≤ s.2 ∧ s.2 ≤ l.length ∧ (∀ k, k < s.1 → cmpC (cAt l k) x < 0) ∧ ∀ k, s.2 ≤ k → k < l.length → 0 ≤ cmpC (cAt l k) x) (fun s => s.2 - s.1) ((fun s => s.2 - s.1) (s)) (rest_bsS_0 D K Φ)) Ex.normal (St.mk [(0, (W.kA ex l)), (1, (AV.i x)), (2, (AV.fn (Fn.func (52 : FuncId)) [])), (8, (AV.i (((List.length l) : Nat) : Int))), (9, (AV.i (((Prod.fst s) : Nat) : Int))), (10, (AV.i (bShr IntKind.u64 (IntKind.wrap IntKind.u64 ((((Prod.fst s) + (Prod.snd s)) : Nat) : Int)) (1 : Int)))), (11, (AV.i (bShr IntKind.u64 (IntKind.wrap IntKind.u64 ((((Prod.fst s) + (Prod.snd s)) : Nat) : Int)) (1 : Int)))), (17, (AV.v (Value.bool true))), (31, (AV.v (Value.bool false)))] [] []))))))))))) ∧
 ((decide ((((Prod.fst s) : Nat) : Int) < (((Prod.snd s) : Nat) : Int))) = false →
 (((decide ((((Prod.fst s) : Nat) : Int) < (((List.length l) : Nat) : Int))) = true →
  ((((0 : Int) ≤ (((Prod.fst s) : Nat) : Int)) ∧ ((((Prod.fst s) : Nat) : Int) < (((List.length l) : Nat) : Int))) ∧
   (Fun W.C W.P (52 : FuncId) [(W.cvA (W.cAt l (Prod.fst s))), (AV.i x)] [] (AV.i (W.cmpC (W.cAt l (Prod.fst s)) x)) [] ∧
   (True ∧
   (Φ Ex.ret (St.mk [(0, (W.kA ex l)), (1, (AV.i x)), (2, (AV.fn (Fn.func (52 : FuncId)) [])), (6, (AV.i (((Prod.fst s) : Nat) : Int))), (7, (AV.sb ((W.cmpC (W.cAt l (Prod.fst s)) x) == (0 : Int)))), (8, (AV.i (((List.length l) : Nat) : Int))), (9, (AV.i (((Prod.fst s) : Nat) : Int))), (10, (AV.i (((Prod.snd s) : Nat) : Int))), (17, (AV.v (Value.bool false)))] [] [])))))) ∧
  ((decide ((((Prod.fst s) : Nat) : Int) < (((List.length l) : Nat) : Int))) = false →
  (Φ Ex.ret (St.mk [(0, (W.kA ex l)), (1, (AV.i x)), (2, (AV.fn (Fn.func (52 : FuncId)) [])), (6, (AV.i (((Prod.fst s) : Nat) : Int))), (7, (AV.v (Value.bool false))), (8, (AV.i (((List.length l) : Nat) : Int))), (9, (AV.i (((Prod.fst s) : Nat) : Int))), (10, (AV.i (((Prod.snd s) : Nat) : Int))), (17, (AV.v (Value.bool false)))] [] [])))))) := by kernel_rfl
set_option maxRecDepth 1000000 in
theorem find_A (ex : Bool) (l : List Cv) (x : Int) {D : Dom} (K : Nat) (Φ : Ex → St → Prop) :
  (Holds C P 18 D K Φ (vc C w_find b_find [] (start [ksA ex l, .i x] []) lf)) =
  (((decide (x < (0 : Int))) = true →
 (Φ Ex.ret (St.mk [(0, (W.ksA ex l)), (1, (AV.i x)), (2, (AV.ptr 2 [])), (4, (AV.i (0 : Int))), (5, (AV.v (Value.bool false))), (11, (AV.v (Value.bool true)))] [(2, (Blk.c (W.ksA ex l)))] [2]))) ∧
 ((decide (x < (0 : Int))) = false →
 (((decide (x ≥ (4096 : Int))) = true →
  (Φ Ex.ret (St.mk [(0, (W.ksA ex l)), (1, (AV.i x)), (2, (AV.ptr 2 [])), (4, (AV.i (0 : Int))), (5, (AV.v (Value.bool false))), (11, (AV.v (Value.bool true)))] [(2, (Blk.c (W.ksA ex l)))] [2]))) ∧
  ((decide (x ≥ (4096 : Int))) = false →
  (Fun W.C W.P 51 [(W.kA ex l), (AV.i x), (AV.fn (Fn.func 52) [])] [] (AV.tup [(AV.i (((W.findI (W.toCs (W.kA ex l)) x) : Nat) : Int)), (AV.sb (W.findB (W.toCs (W.kA ex l)) x))]) [] ∧
   (Φ Ex.ret (St.mk [(0, (W.ksA ex l)), (1, (AV.i x)), (2, (AV.ptr 2 [])), (4, (AV.i (((W.findI (W.toCs (W.kA ex l)) x) : Nat) : Int))), (5, (AV.sb (W.findB (W.toCs (W.kA ex l)) x))), (11, (AV.v (Value.bool false)))] [(2, (Blk.c (W.ksA ex l)))] [2]))))))) := by kernel_rfl
theorem rfind_A (ex : Bool) (l : List Cv) (x : Int) {D : Dom} (K : Nat) (Φ : Ex → St → Prop) :
  (Holds C P 21 D K Φ (vc C w_rfind b_rfind [] (start [ksA ex l, .i x] []) lf)) =
  (LoopOK W.C W.P 21 D K (bodyAt b_rfind [1, 0, 1, 0]) (St.mk [(0, (W.ksA ex l)), (1, (AV.i x)), (2, (AV.ptr 2 [])), (4, (AV.i (0 : Int))), (5, (AV.i (0 : Int)))] [(2, (Blk.c (W.ksA ex l)))] [2]) (fun (e : Ex) (S' : St) => Holds W.C W.P 21 D K Φ (after W.C w_rfind b_rfind [1, 0, 1, 0] [] lf e S'))) := by kernel_rfl
noncomputable abbrev bd_rfind_0 : Code := bodyAt (b_rfind) [1, 0, 1, 0]
theorem ok_rfind_0 : codeOK bd_rfind_0 = true := by kernel_rfl
noncomputable abbrev rest_rfind_0 (D : Dom) (K : Nat) (Φ : Ex → St → Prop) : Ex → St → Prop := fun e S' => Holds C P 21 D K Φ (after C w_rfind (b_rfind) [1, 0, 1, 0] [] lf e S')
theorem rfind_L0 (ex : Bool) (l : List Cv) (x : Int) (i : Nat) {D : Dom} (K : Nat) (Φ : Ex → St → Prop) :
  (Holds C P 21 D K (RoundQ C 21 D K (I_rfi ex l x) (fun i => i ≤ l.length ∧ ∀ k, k < i → stB (cAt l k) x = false) (fun i => l.length - i) ((fun i => l.length - i) (i)) (rest_rfind_0 D K Φ)) (vc C w_rfind bd_rfind_0 [] ((I_rfi ex l x) (i)) lf)) =
  (((decide (((i : Nat) : Int) < (((List.length l) : Nat) : Int))) = true →
 ((((0 : Int) ≤ ((i : Nat) : Int)) ∧ (((i : Nat) : Int) < (((List.length l) : Nat) : Int))) ∧
  (Fun W.C W.P 59 [(W.cvA (W.cAt l i)), (AV.i x)] [] (AV.sb (W.stB (W.cAt l i) x)) [] ∧
  (True ∧
  (((W.stB (W.cAt l i) x) = true →
  (Φ Ex.ret (St.mk [(1, (AV.i x)), (2, (AV.ptr 2 [])), (4, (AV.i ((i : Nat) : Int))), (5, (AV.i ((i : Nat) : Int))), (10, (AV.v (Value.bool true))), (19, (AV.v (Value.bool true)))] [(2, (Blk.c (W.ksA ex l)))] [2]))) ∧
  ((W.stB (W.cAt l i) x) = false →
  ((I64 (((i + 1) : Nat) : Int)) ∧
   ((RoundQ C 21 D K (I_rfi ex l x) (fun i => i ≤ l.length ∧ ∀ k, k < i → stB (cAt l k) x = false) (fun i => l.length - i) ((fun i => l.length - i) (i)) (rest_rfind_0 D K Φ)) Ex.normal (St.mk [(1, (AV.i x)), (2, (AV.ptr 2 [])), (5, (AV.i (((i + 1) : Nat) : Int))), (10, (AV.v (Value.bool true))), (19, (AV.v (Value.bool false)))] [(2, (Blk.c (W.ksA ex l)))] [2]))))))))) ∧
 ((decide (((i : Nat) : Int) < (((List.length l) : Nat) : Int))) = false →
 (Φ Ex.ret (St.mk [(1, (AV.i x)), (2, (AV.ptr 2 [])), (4, (AV.i (-1 : Int))), (5, (AV.i ((i : Nat) : Int))), (10, (AV.v (Value.bool false)))] [(2, (Blk.c (W.ksA ex l)))] [2])))) := by kernel_rfl
theorem valid_A (ex : Bool) (l : List Cv) {D : Dom} (K : Nat) (Φ : Ex → St → Prop) :
  (Holds C P 52 D K Φ (vc C w_valid b_valid [] (start [ksA ex l] []) lf)) =
  (LoopOK W.C W.P 52 D K (bodyAt b_valid [1, 1, 0, 1, 0]) (St.mk [(0, (W.ksA ex l)), (1, (AV.ptr 1 [])), (2, (AV.v (Value.bool false))), (3, (AV.i (0 : Int))), (7, (W.kA ex l)), (8, (AV.i (((List.length l) : Nat) : Int))), (9, (AV.i (0 : Int)))] [(1, (Blk.c (W.ksA ex l)))] [1]) (fun (e : Ex) (S' : St) => Holds W.C W.P 52 D K Φ (after W.C w_valid b_valid [1, 1, 0, 1, 0] [] lf e S'))) := by kernel_rfl
noncomputable abbrev bd_valid_0 : Code := bodyAt (b_valid) [1, 1, 0, 1, 0]
theorem ok_valid_0 : codeOK bd_valid_0 = true := by kernel_rfl
noncomputable abbrev rest_valid_0 (D : Dom) (K : Nat) (Φ : Ex → St → Prop) : Ex → St → Prop := fun e S' => Holds C P 52 D K Φ (after C w_valid (b_valid) [1, 1, 0, 1, 0] [] lf e S')
theorem valid_L0 (ex : Bool) (l : List Cv) (i : Nat) {D : Dom} (K : Nat) (Φ : Ex → St → Prop) :
  (Holds C P 52 D K (RoundQ C 52 D K (I_va ex l) (okTo l) (fun i => l.length - i) ((fun i => l.length - i) (i)) (rest_valid_0 D K Φ)) (vc C w_valid bd_valid_0 [] ((I_va ex l) (i)) lf)) =
  (((decide (((i : Nat) : Int) < (((List.length l) : Nat) : Int))) = true →
 ((((0 : Int) ≤ ((i : Nat) : Int)) ∧ (((i : Nat) : Int) < (((List.length l) : Nat) : Int))) ∧
  ((W.ShC) ∧
  (((decide ((W.Cv.d (W.cAt l i)) < (0 : Int))) = true →
  (Φ Ex.ret (St.mk [(1, (AV.ptr 1 [])), (2, (AV.v (Value.bool false))), (3, (AV.i (W.nxt l i))), (5, (AV.ptr 5 [])), (7, (W.kA ex l)), (8, (AV.i (((List.length l) : Nat) : Int))), (9, (AV.i ((i : Nat) : Int))), (10, (AV.v (Value.bool true))), (43, (AV.v (Value.bool true)))] [(1, (Blk.c (W.ksA ex l))), (5, (Blk.c (W.cvA (W.cAt l i))))] [5, 1]))) ∧
  ((decide ((W.Cv.d (W.cAt l i)) < (0 : Int))) = false →
  (((decide ((W.Cv.d (W.cAt l i)) > (12 : Int))) = true →
   (Φ Ex.ret (St.mk [(1, (AV.ptr 1 [])), (2, (AV.v (Value.bool false))), (3, (AV.i (W.nxt l i))), (5, (AV.ptr 5 [])), (7, (W.kA ex l)), (8, (AV.i (((List.length l) : Nat) : Int))), (9, (AV.i ((i : Nat) : Int))), (10, (AV.v (Value.bool true))), (43, (AV.v (Value.bool true)))] [(1, (Blk.c (W.ksA ex l))), (5, (Blk.c (W.cvA (W.cAt l i))))] [5, 1]))) ∧
   ((decide ((W.Cv.d (W.cAt l i)) > (12 : Int))) = false →
   (((decide ((W.Cv.a (W.cAt l i)) < (0 : Int))) = true →
    (Φ Ex.ret (St.mk [(1, (AV.ptr 1 [])), (2, (AV.v (Value.bool false))), (3, (AV.i (W.nxt l i))), (5, (AV.ptr 5 [])), (7, (W.kA ex l)), (8, (AV.i (((List.length l) : Nat) : Int))), (9, (AV.i ((i : Nat) : Int))), (10, (AV.v (Value.bool true))), (43, (AV.v (Value.bool true)))] [(1, (Blk.c (W.ksA ex l))), (5, (Blk.c (W.cvA (W.cAt l i))))] [5, 1]))) ∧
    ((decide ((W.Cv.a (W.cAt l i)) < (0 : Int))) = false →
    (((0 : Int) ≤ (W.Cv.d (W.cAt l i))) ∧
     (((decide ((W.Cv.a (W.cAt l i)) ≥ (bShl IntKind.i64 (1 : Int) (W.Cv.d (W.cAt l i))))) = true →
     (Φ Ex.ret (St.mk [(1, (AV.ptr 1 [])), (2, (AV.v (Value.bool false))), (3, (AV.i (W.nxt l i))), (5, (AV.ptr 5 [])), (7, (W.kA ex l)), (8, (AV.i (((List.length l) : Nat) : Int))), (9, (AV.i ((i : Nat) : Int))), (10, (AV.v (Value.bool true))), (43, (AV.v (Value.bool true)))] [(1, (Blk.c (W.ksA ex l))), (5, (Blk.c (W.cvA (W.cAt l i))))] [5, 1]))) ∧
     ((decide ((W.Cv.a (W.cAt l i)) ≥ (bShl IntKind.i64 (1 : Int) (W.Cv.d (W.cAt l i))))) = false →
     (Fun W.C W.P 45 [(AV.i (W.Cv.d (W.cAt l i)))] [] (AV.i (W.szI (W.Cv.d (W.cAt l i)))) [] ∧
      (True ∧
      ((I64 ((W.Cv.a (W.cAt l i)) * (W.szI (W.Cv.d (W.cAt l i))))) ∧
      (((decide (((W.Cv.a (W.cAt l i)) * (W.szI (W.Cv.d (W.cAt l i)))) < (W.nxt l i))) = true →
      (Φ Ex.ret (St.mk [(1, (AV.ptr 1 [])), (2, (AV.v (Value.bool false))), (3, (AV.i (W.nxt l i))), (5, (AV.ptr 5 [])), (7, (W.kA ex l)), (8, (AV.i (((List.length l) : Nat) : Int))), (9, (AV.i ((i : Nat) : Int))), (10, (AV.v (Value.bool true))), (43, (AV.v (Value.bool true)))] [(1, (Blk.c (W.ksA ex l))), (5, (Blk.c (W.cvA (W.cAt l i))))] [5, 1]))) ∧
      ((decide (((W.Cv.a (W.cAt l i)) * (W.szI (W.Cv.d (W.cAt l i)))) < (W.nxt l i))) = false →
      ((I64 ((W.Cv.a (W.cAt l i)) + (1 : Int))) ∧
       (Fun W.C W.P 45 [(AV.i (W.Cv.d (W.cAt l i)))] [] (AV.i (W.szI (W.Cv.d (W.cAt l i)))) [] ∧
       (True ∧
       ((I64 (((W.Cv.a (W.cAt l i)) + (1 : Int)) * (W.szI (W.Cv.d (W.cAt l i))))) ∧
       ((I64 (((i + 1) : Nat) : Int)) ∧
       ((RoundQ C 52 D K (I_va ex l) (okTo l) (fun i => l.length - i) ((fun i => l.length - i) (i)) (rest_valid_0 D K Φ)) Ex.normal (St.mk [(1, (AV.ptr 1 [])), (3, (AV.i (((W.Cv.a (W.cAt l i)) + (1 : Int)) * (W.szI (W.Cv.d (W.cAt l i)))))), (5, (AV.ptr 5 [])), (7, (W.kA ex l)), (8, (AV.i (((List.length l) : Nat) : Int))), (9, (AV.i (((i + 1) : Nat) : Int))), (10, (AV.v (Value.bool true))), (43, (AV.v (Value.bool false)))] [(1, (Blk.c (W.ksA ex l))), (5, (Blk.c (W.cvA (W.cAt l i))))] [5, 1])))))))))))))))))))))))) ∧
 ((decide (((i : Nat) : Int) < (((List.length l) : Nat) : Int))) = false →
 (Φ Ex.ret (St.mk [(1, (AV.ptr 1 [])), (2, (AV.v (Value.bool true))), (3, (AV.i (W.nxt l i))), (7, (W.kA ex l)), (8, (AV.i (((List.length l) : Nat) : Int))), (9, (AV.i ((i : Nat) : Int))), (10, (AV.v (Value.bool false)))] [(1, (Blk.c (W.ksA ex l)))] [1])))) := by kernel_rfl
theorem rvalid_A (ex : Bool) (l : List Cv) {D : Dom} (K : Nat) (Φ : Ex → St → Prop) :
  (Holds C P 56 D K Φ (vc C w_rvalid b_rvalid [] (start [ksA ex l] []) lf)) =
  (LoopOK W.C W.P 56 D K (bodyAt b_rvalid [1, 1, 0, 1, 0]) (St.mk [(0, (W.ksA ex l)), (1, (AV.ptr 1 [])), (2, (AV.v (Value.bool false))), (3, (AV.i (0 : Int))), (4, (AV.i (0 : Int)))] [(1, (Blk.c (W.ksA ex l)))] [1]) (fun (e : Ex) (S' : St) => Holds W.C W.P 56 D K Φ (after W.C w_rvalid b_rvalid [1, 1, 0, 1, 0] [] lf e S'))) := by kernel_rfl
noncomputable abbrev bd_rvalid_0 : Code := bodyAt (b_rvalid) [1, 1, 0, 1, 0]
theorem ok_rvalid_0 : codeOK bd_rvalid_0 = true := by kernel_rfl
noncomputable abbrev rest_rvalid_0 (D : Dom) (K : Nat) (Φ : Ex → St → Prop) : Ex → St → Prop := fun e S' => Holds C P 56 D K Φ (after C w_rvalid (b_rvalid) [1, 1, 0, 1, 0] [] lf e S')
theorem rvalid_L0 (ex : Bool) (l : List Cv) (i : Nat) {D : Dom} (K : Nat) (Φ : Ex → St → Prop) :
  (Holds C P 56 D K (RoundQ C 56 D K (I_rva ex l) (okTo l) (fun i => l.length - i) ((fun i => l.length - i) (i)) (rest_rvalid_0 D K Φ)) (vc C w_rvalid bd_rvalid_0 [] ((I_rva ex l) (i)) lf)) =
  (((decide (((i : Nat) : Int) < (((List.length l) : Nat) : Int))) = true →
 ((((0 : Int) ≤ ((i : Nat) : Int)) ∧ (((i : Nat) : Int) < (((List.length l) : Nat) : Int))) ∧
  ((W.ShC) ∧
  (((decide ((W.Cv.d (W.cAt l i)) < (0 : Int))) = true →
  (Φ Ex.ret (St.mk [(1, (AV.ptr 1 [])), (2, (AV.v (Value.bool false))), (3, (AV.i (W.nxt l i))), (4, (AV.i ((i : Nat) : Int))), (5, (AV.ptr 5 [])), (10, (AV.v (Value.bool true))), (48, (AV.v (Value.bool true)))] [(1, (Blk.c (W.ksA ex l))), (5, (Blk.c (W.cvA (W.cAt l i))))] [5, 1]))) ∧
  ((decide ((W.Cv.d (W.cAt l i)) < (0 : Int))) = false →
  (((decide ((W.Cv.d (W.cAt l i)) > (12 : Int))) = true →
   (Φ Ex.ret (St.mk [(1, (AV.ptr 1 [])), (2, (AV.v (Value.bool false))), (3, (AV.i (W.nxt l i))), (4, (AV.i ((i : Nat) : Int))), (5, (AV.ptr 5 [])), (10, (AV.v (Value.bool true))), (48, (AV.v (Value.bool true)))] [(1, (Blk.c (W.ksA ex l))), (5, (Blk.c (W.cvA (W.cAt l i))))] [5, 1]))) ∧
   ((decide ((W.Cv.d (W.cAt l i)) > (12 : Int))) = false →
   (((decide ((W.Cv.a (W.cAt l i)) < (0 : Int))) = true →
    (Φ Ex.ret (St.mk [(1, (AV.ptr 1 [])), (2, (AV.v (Value.bool false))), (3, (AV.i (W.nxt l i))), (4, (AV.i ((i : Nat) : Int))), (5, (AV.ptr 5 [])), (10, (AV.v (Value.bool true))), (48, (AV.v (Value.bool true)))] [(1, (Blk.c (W.ksA ex l))), (5, (Blk.c (W.cvA (W.cAt l i))))] [5, 1]))) ∧
    ((decide ((W.Cv.a (W.cAt l i)) < (0 : Int))) = false →
    (((0 : Int) ≤ (W.Cv.d (W.cAt l i))) ∧
     (((decide ((W.Cv.a (W.cAt l i)) ≥ (bShl IntKind.i64 (1 : Int) (W.Cv.d (W.cAt l i))))) = true →
     (Φ Ex.ret (St.mk [(1, (AV.ptr 1 [])), (2, (AV.v (Value.bool false))), (3, (AV.i (W.nxt l i))), (4, (AV.i ((i : Nat) : Int))), (5, (AV.ptr 5 [])), (10, (AV.v (Value.bool true))), (48, (AV.v (Value.bool true)))] [(1, (Blk.c (W.ksA ex l))), (5, (Blk.c (W.cvA (W.cAt l i))))] [5, 1]))) ∧
     ((decide ((W.Cv.a (W.cAt l i)) ≥ (bShl IntKind.i64 (1 : Int) (W.Cv.d (W.cAt l i))))) = false →
     (Fun W.C W.P 39 [(AV.i (W.Cv.d (W.cAt l i)))] [] (AV.i (W.szI (W.Cv.d (W.cAt l i)))) [] ∧
      (True ∧
      ((I64 ((W.Cv.a (W.cAt l i)) * (W.szI (W.Cv.d (W.cAt l i))))) ∧
      (((decide (((W.Cv.a (W.cAt l i)) * (W.szI (W.Cv.d (W.cAt l i)))) < (W.nxt l i))) = true →
      (Φ Ex.ret (St.mk [(1, (AV.ptr 1 [])), (2, (AV.v (Value.bool false))), (3, (AV.i (W.nxt l i))), (4, (AV.i ((i : Nat) : Int))), (5, (AV.ptr 5 [])), (10, (AV.v (Value.bool true))), (48, (AV.v (Value.bool true)))] [(1, (Blk.c (W.ksA ex l))), (5, (Blk.c (W.cvA (W.cAt l i))))] [5, 1]))) ∧
      ((decide (((W.Cv.a (W.cAt l i)) * (W.szI (W.Cv.d (W.cAt l i)))) < (W.nxt l i))) = false →
      ((I64 ((W.Cv.a (W.cAt l i)) + (1 : Int))) ∧
       (Fun W.C W.P 39 [(AV.i (W.Cv.d (W.cAt l i)))] [] (AV.i (W.szI (W.Cv.d (W.cAt l i)))) [] ∧
       (True ∧
       ((I64 (((W.Cv.a (W.cAt l i)) + (1 : Int)) * (W.szI (W.Cv.d (W.cAt l i))))) ∧
       ((I64 (((i + 1) : Nat) : Int)) ∧
       ((RoundQ C 56 D K (I_rva ex l) (okTo l) (fun i => l.length - i) ((fun i => l.length - i) (i)) (rest_rvalid_0 D K Φ)) Ex.normal (St.mk [(1, (AV.ptr 1 [])), (3, (AV.i (((W.Cv.a (W.cAt l i)) + (1 : Int)) * (W.szI (W.Cv.d (W.cAt l i)))))), (4, (AV.i (((i + 1) : Nat) : Int))), (5, (AV.ptr 5 [])), (10, (AV.v (Value.bool true))), (48, (AV.v (Value.bool false)))] [(1, (Blk.c (W.ksA ex l))), (5, (Blk.c (W.cvA (W.cAt l i))))] [5, 1])))))))))))))))))))))))) ∧
 ((decide (((i : Nat) : Int) < (((List.length l) : Nat) : Int))) = false →
 (Φ Ex.ret (St.mk [(1, (AV.ptr 1 [])), (2, (AV.v (Value.bool true))), (3, (AV.i (W.nxt l i))), (4, (AV.i ((i : Nat) : Int))), (10, (AV.v (Value.bool false)))] [(1, (Blk.c (W.ksA ex l)))] [1])))) := by kernel_rfl
theorem kleft_A (ex : Bool) (l : List Cv) {D : Dom} (K : Nat) (Φ : Ex → St → Prop) :
  (Holds C P 20 D K Φ (vc C w_kleft b_kleft [] (start [ksA ex l] []) lf)) =
  (LoopOK W.C W.P 20 D K (bodyAt b_kleft [1, 1, 0, 1, 0]) (St.mk [(0, (W.ksA ex l)), (1, (AV.ptr 1 [])), (2, (AV.i (0 : Int))), (3, (AV.i (0 : Int))), (7, (W.kA ex l)), (8, (AV.i (((List.length l) : Nat) : Int))), (9, (AV.i (0 : Int)))] [(1, (Blk.c (W.ksA ex l)))] [1]) (fun (e : Ex) (S' : St) => Holds W.C W.P 20 D K Φ (after W.C w_kleft b_kleft [1, 1, 0, 1, 0] [] lf e S'))) := by kernel_rfl
noncomputable abbrev bd_kleft_0 : Code := bodyAt (b_kleft) [1, 1, 0, 1, 0]
theorem ok_kleft_0 : codeOK bd_kleft_0 = true := by kernel_rfl
noncomputable abbrev rest_kleft_0 (D : Dom) (K : Nat) (Φ : Ex → St → Prop) : Ex → St → Prop := fun e S' => Holds C P 20 D K Φ (after C w_kleft (b_kleft) [1, 1, 0, 1, 0] [] lf e S')
theorem kleft_L0 (ex : Bool) (l : List Cv) (i : Nat) {D : Dom} (K : Nat) (Φ : Ex → St → Prop) :
  (Holds C P 20 D K (RoundQ C 20 D K (I_kl ex l) (fun i => i ≤ l.length) (fun i => l.length - i) ((fun i => l.length - i) (i)) (rest_kleft_0 D K Φ)) (vc C w_kleft bd_kleft_0 [] ((I_kl ex l) (i)) lf)) =
  (((decide (((i : Nat) : Int) < (((List.length l) : Nat) : Int))) = true →
 ((((0 : Int) ≤ ((i : Nat) : Int)) ∧ (((i : Nat) : Int) < (((List.length l) : Nat) : Int))) ∧
  ((W.ShC) ∧
  (Fun W.C W.P 45 [(AV.i (W.Cv.d (W.cAt l i)))] [] (AV.i (W.szI (W.Cv.d (W.cAt l i)))) [] ∧
  (True ∧
  ((I64 ((W.leftI (List.take i l)) + (W.szI (W.Cv.d (W.cAt l i))))) ∧
  ((I64 (((i + 1) : Nat) : Int)) ∧
  ((RoundQ C 20 D K (I_kl ex l) (fun i => i ≤ l.length) (fun i => l.length - i) ((fun i => l.length - i) (i)) (rest_kleft_0 D K Φ)) Ex.normal (St.mk [(1, (AV.ptr 1 [])), (3, (AV.i ((W.leftI (List.take i l)) + (W.szI (W.Cv.d (W.cAt l i)))))), (5, (AV.ptr 5 [])), (7, (W.kA ex l)), (8, (AV.i (((List.length l) : Nat) : Int))), (9, (AV.i (((i + 1) : Nat) : Int))), (10, (AV.v (Value.bool true)))] [(1, (Blk.c (W.ksA ex l))), (5, (Blk.c (W.cvA (W.cAt l i))))] [5, 1]))))))))) ∧
 ((decide (((i : Nat) : Int) < (((List.length l) : Nat) : Int))) = false →
 (Φ Ex.ret (St.mk [(1, (AV.ptr 1 [])), (2, (AV.i (W.leftI (List.take i l)))), (3, (AV.i (W.leftI (List.take i l)))), (7, (W.kA ex l)), (8, (AV.i (((List.length l) : Nat) : Int))), (9, (AV.i ((i : Nat) : Int))), (10, (AV.v (Value.bool false)))] [(1, (Blk.c (W.ksA ex l)))] [1])))) := by kernel_rfl
theorem rkleft_A (ex : Bool) (l : List Cv) {D : Dom} (K : Nat) (Φ : Ex → St → Prop) :
  (Holds C P 22 D K Φ (vc C w_rkleft b_rkleft [] (start [ksA ex l] []) lf)) =
  (LoopOK W.C W.P 22 D K (bodyAt b_rkleft [1, 1, 0, 1, 0]) (St.mk [(0, (W.ksA ex l)), (1, (AV.ptr 1 [])), (2, (AV.i (0 : Int))), (3, (AV.i (0 : Int))), (4, (AV.i (0 : Int)))] [(1, (Blk.c (W.ksA ex l)))] [1]) (fun (e : Ex) (S' : St) => Holds W.C W.P 22 D K Φ (after W.C w_rkleft b_rkleft [1, 1, 0, 1, 0] [] lf e S'))) := by kernel_rfl
noncomputable abbrev bd_rkleft_0 : Code := bodyAt (b_rkleft) [1, 1, 0, 1, 0]
theorem ok_rkleft_0 : codeOK bd_rkleft_0 = true := by kernel_rfl
noncomputable abbrev rest_rkleft_0 (D : Dom) (K : Nat) (Φ : Ex → St → Prop) : Ex → St → Prop := fun e S' => Holds C P 22 D K Φ (after C w_rkleft (b_rkleft) [1, 1, 0, 1, 0] [] lf e S')
theorem rkleft_L0 (ex : Bool) (l : List Cv) (i : Nat) {D : Dom} (K : Nat) (Φ : Ex → St → Prop) :
  (Holds C P 22 D K (RoundQ C 22 D K (I_rkl ex l) (fun i => i ≤ l.length) (fun i => l.length - i) ((fun i => l.length - i) (i)) (rest_rkleft_0 D K Φ)) (vc C w_rkleft bd_rkleft_0 [] ((I_rkl ex l) (i)) lf)) =
  (((decide (((i : Nat) : Int) < (((List.length l) : Nat) : Int))) = true →
 ((((0 : Int) ≤ ((i : Nat) : Int)) ∧ (((i : Nat) : Int) < (((List.length l) : Nat) : Int))) ∧
  (Fun W.C W.P 39 [(AV.i (W.Cv.d (W.cAt l i)))] [] (AV.i (W.szI (W.Cv.d (W.cAt l i)))) [] ∧
  (True ∧
  ((I64 ((W.leftI (List.take i l)) + (W.szI (W.Cv.d (W.cAt l i))))) ∧
  ((I64 (((i + 1) : Nat) : Int)) ∧
  ((RoundQ C 22 D K (I_rkl ex l) (fun i => i ≤ l.length) (fun i => l.length - i) ((fun i => l.length - i) (i)) (rest_rkleft_0 D K Φ)) Ex.normal (St.mk [(1, (AV.ptr 1 [])), (3, (AV.i ((W.leftI (List.take i l)) + (W.szI (W.Cv.d (W.cAt l i)))))), (4, (AV.i (((i + 1) : Nat) : Int))), (9, (AV.v (Value.bool true)))] [(1, (Blk.c (W.ksA ex l)))] [1])))))))) ∧
 ((decide (((i : Nat) : Int) < (((List.length l) : Nat) : Int))) = false →
 (Φ Ex.ret (St.mk [(1, (AV.ptr 1 [])), (2, (AV.i (W.leftI (List.take i l)))), (3, (AV.i (W.leftI (List.take i l)))), (4, (AV.i ((i : Nat) : Int))), (9, (AV.v (Value.bool false)))] [(1, (Blk.c (W.ksA ex l)))] [1])))) := by kernel_rfl

def VL (l : List Cv) : Prop := (∀ i, i < l.length → CvOK (cAt l i)) ∧ ∀ i j, i < j → j < l.length → hiC (cAt l i) ≤ loC (cAt l j)
theorem hi_lo (c : Cv) : hiC c = loC c + szI c.d := by unfold hiC loC; rw [Int.add_mul]; omega
theorem cmp_neg {c : Cv} (h : CvOK c) {id : Int} : cmpC c id < 0 ↔ hiC c ≤ id := by
  have := (cv_facts h).2.2.1
  have e := hi_lo c
  unfold cmpC
  change hiC c = c.a * szI c.d + szI c.d at e
  split <;> (try split) <;> omega
theorem cmp_zero {c : Cv} (h : CvOK c) {id : Int} : cmpC c id = 0 ↔ loC c ≤ id ∧ id < hiC c := by
  have := (cv_facts h).2.2.1
  have e := hi_lo c
  unfold cmpC loC
  change hiC c = c.a * szI c.d + szI c.d at e
  split <;> (try split) <;> omega
theorem cmp_le {c : Cv} (h : CvOK c) {id : Int} : cmpC c id ≤ 0 ↔ loC c ≤ id := by
  have := (cv_facts h).2.2.1
  unfold cmpC loC
  split <;> (try split) <;> omega
theorem VL.mono {l : List Cv} (h : VL l) (id : Int) : Mono (fun y => cmpC y id) l c0 := fun i j hij hj hc => by
  have h1 := (cmp_le (h.1 j hj)).1 hc
  have h2 := h.2 i j hij hj
  exact (cmp_neg (h.1 i (by omega))).2 (by change hiC (cAt l i) ≤ id; change loC (cAt l j) ≤ id at h1; omega)
theorem st_iff {c : Cv} (h : CvOK c) {id : Int} : stB c id = true ↔ inR id = true ∧ cmpC c id = 0 := by
  have hs := (cv_facts h).2.2.1
  rw [cmp_zero h]
  unfold stB inR
  simp only [Bool.and_eq_true, decide_eq_true_eq, beq_iff_eq]
  refine and_congr_right fun ⟨h0, h1⟩ => ?_
  rw [Int.tdiv_eq_ediv_of_nonneg h0, hi_lo]
  unfold loC
  have e := Int.mul_ediv_add_emod id (szI c.d)
  have e1 := Int.emod_nonneg id (show szI c.d ≠ 0 by omega)
  have e2 := Int.emod_lt_of_pos id (show 0 < szI c.d by omega)
  constructor
  · intro g
    rw [g, Int.mul_comm] at e
    omega
  · rintro ⟨g1, g2⟩
    have g3 : id / szI c.d = c.a := by
      have : id = c.a * szI c.d + (id - c.a * szI c.d) := by omega
      rw [this, Int.add_comm, Int.add_mul_ediv_right _ _ (show szI c.d ≠ 0 by omega), Int.ediv_eq_zero_of_lt (by omega) (by omega)]
      omega
    exact g3
theorem bsS_fun (ex : Bool) (l : List Cv) (x : Int) (hn : l.length < 2 ^ 60) (hv : VL l) : Fun C P F_bsS [kA ex l, .i x, .fn (.func 52) []] [] (.tup [.i (findI l x : Nat), .sb (findB l x)]) [] := by
  have hm := hv.mono x
  refine in_bsS (W := w_bsS) rfl 0 (by simp) rfl (fun id h => absurd rfl h) fun D => ?_
  refine of_eq (bsS_A ex l x 0 _) ?_
  refine loop_inv (W := w_bsS) ctx mixed ok_bsS_0 (I_bsS ex l x) (fun s => s.1 ≤ s.2 ∧ s.2 ≤ l.length ∧ (∀ k, k < s.1 → cmpC (cAt l k) x < 0) ∧ ∀ k, s.2 ≤ k → k < l.length → 0 ≤ cmpC (cAt l k) x) (fun s => s.2 - s.1) (0, l.length) ⟨Nat.zero_le _, Nat.le_refl _, fun k hk => by omega, fun k h1 h2 => by omega⟩ ?_ fun s hs => ?_
  · exact ent_of [] rfl (tm_cons rfl (sm_same rfl) (tm_cons rfl (sm_same rfl) (tm_cons rfl (sm_same rfl) (tm_cons rfl (sm_same rfl) (tm_cons rfl (sm_same rfl) (tm_cons rfl (sm_same rfl) tm_nil)))))) hp_nil
  obtain ⟨i, j⟩ := s
  obtain ⟨h1, h2, h3, h4⟩ := hs
  dsimp only at h1 h2 h3 h4
  refine of_eq (bsS_L0 ex l x (i, j) 0 _) ?_
  dsimp only
  rw [half (i + j) (by omega)]
  refine ⟨fun h => ?_, fun h => ?_⟩
  · simp only [decide_eq_true_eq] at h
    have hlt : i < j := by omega
    obtain ⟨m, hm'⟩ : ∃ m, m = (i + j) / 2 := ⟨_, rfl⟩
    rw [← hm', Int.toNat_natCast]
    have hmono : ∀ a b, a < b → b < l.length → cmpC (cAt l b) x < 0 → cmpC (cAt l a) x < 0 := fun a b hab hb hc => hm a b hab hb (Int.le_of_lt hc)
    refine ⟨(by first | omega | decide | (unfold I64; omega)), (by first | omega | decide | (unfold I64; omega)), (by first | omega | decide | (unfold I64; omega)), (by first | omega | decide | (unfold I64; omega)), find1_fun (cAt l m) (hv.1 m (by omega)) x, trivial, fun h5 => ⟨(by first | omega | decide | (unfold I64; omega)), ?_⟩, fun h5 => ?_⟩
    · have h5 : cmpC (cAt l m) x < 0 := of_decide_eq_true h5
      exact round_end (m + 1, j) ⟨by dsimp only; omega, h2, fun k hk => by
        dsimp only at hk
        by_cases e : k = m
        · rw [e]; exact h5
        · exact hmono k m (by omega) (by omega) h5, h4⟩ (ent_of [] rfl (tm_cons rfl (sm_same rfl) (tm_cons rfl (sm_same rfl) (tm_cons rfl (sm_same rfl) (tm_cons rfl (sm_same rfl) (tm_cons rfl (sm_same rfl) (tm_cons rfl (sm_same rfl) tm_nil)))))) hp_nil) (by dsimp only; omega)
    · have h5 : ¬ cmpC (cAt l m) x < 0 := of_decide_eq_false h5
      exact round_end (i, m) ⟨by dsimp only; omega, by dsimp only; omega, h3, fun k hk hkl => by
        dsimp only at hk
        by_cases e : k = m
        · rw [e]; omega
        · by_cases hc : cmpC (cAt l k) x < 0
          · exact absurd (hmono m k (by omega) hkl hc) h5
          · omega⟩ (ent_of [] rfl (tm_cons rfl (sm_same rfl) (tm_cons rfl (sm_same rfl) (tm_cons rfl (sm_same rfl) (tm_cons rfl (sm_same rfl) (tm_cons rfl (sm_same rfl) (tm_cons rfl (sm_same rfl) tm_nil)))))) hp_nil) (by dsimp only; omega)
  · simp only [decide_eq_false_iff_not] at h
    obtain rfl : j = i := by omega
    have hI : findI l x = j := bs_at (d := c0) h2 h3 h4
    refine ⟨fun h5 => ⟨by simp only [decide_eq_true_eq] at h5; omega, find1_fun (cAt l j) (hv.1 j (by simp only [decide_eq_true_eq] at h5; omega)) x, trivial, ?_⟩, fun h5 => ?_⟩
    · simp only [decide_eq_true_eq] at h5
      unfold findB
      rw [hI, bs_has (d := c0) hm (by omega) h3 (h4 j (Nat.le_refl _) (by omega))]
      exact post_tup rfl rfl (sm_int rfl) (sm_sb (beq_dec _ _)) rfl
    · simp only [decide_eq_false_iff_not] at h5
      unfold findB
      rw [hI, bs_none (d := c0) fun k hk => h3 k (by omega)]
      exact post_tup rfl rfl (sm_int rfl) (sm_b rfl) rfl
theorem find_fun (ex : Bool) (l : List Cv) (x : Int) (hn : l.length < 2 ^ 60) (hv : VL l) : Fun C P F_find [ksA ex l, .i x] [] (.tup [.i (if inR x then (findI l x : Nat) else 0 : Int), .sb (hasB l x)]) [] := by
  refine in_find (W := w_find) rfl 0 (by simp) rfl (fun id h => absurd rfl h) fun D => ?_
  refine of_eq (find_A ex l x 0 _) ?_
  rw [show toCs (AV.dat (List.length l) ex 34 fun i => cvA (cAt l i)) = l from toCs_A ex l]
  refine ⟨fun h => ?_, fun h => ⟨fun h2 => ?_, fun h2 => ⟨bsS_fun ex l x hn hv, ?_⟩⟩⟩
  · have e : inR x = false := by simp only [decide_eq_true_eq] at h; simp [inR]; omega
    unfold hasB
    rw [e]
    exact post_tup rfl rfl (sm_int rfl) (sm_b rfl) rfl
  · have e : inR x = false := by simp only [ge_iff_le, decide_eq_true_eq] at h2; simp [inR]; omega
    unfold hasB
    rw [e]
    exact post_tup rfl rfl (sm_int rfl) (sm_b rfl) rfl
  · have e : inR x = true := by simp only [decide_eq_false_iff_not] at h h2; simp [inR]; omega
    unfold hasB
    rw [e]
    exact post_tup rfl rfl (sm_int rfl) (sm_sb rfl) rfl
theorem at_hit {l : List Cv} (hv : VL l) {x : Int} {i : Nat} (hi : i < l.length) (h : stB (cAt l i) x = true) : hasB l x = true ∧ findI l x = i := by
  obtain ⟨h1, h2⟩ := (st_iff (hv.1 i hi)).1 h
  obtain ⟨g1, g2⟩ := (cmp_zero (hv.1 i hi)).1 h2
  have hI : findI l x = i := bs_at (d := c0) (by omega) (fun k hk => (cmp_neg (hv.1 k (by omega))).2 (Int.le_trans (hv.2 k i hk hi) g1)) fun k hk hkl => by
    by_cases e : k = i
    · subst e; exact Int.le_of_eq h2.symm
    · have h3 := hv.2 i k (by omega) hkl
      have h4 := hi_lo (cAt l k)
      have h5 := (cv_facts (hv.1 k hkl)).2.2.1
      refine Classical.byContradiction fun hc => ?_
      change ¬ 0 ≤ cmpC (cAt l k) x at hc
      have := (cmp_neg (id := x) (hv.1 k hkl)).1 (by omega)
      omega
  refine ⟨?_, hI⟩
  obtain ⟨_, _, _, q⟩ := bs_spec (hv.mono x)
  unfold hasB
  rw [h1, Bool.true_and]
  exact q.2 ⟨by change findI l x < _; omega, by change cmpC (l.getD (findI l x) c0) x = 0; rw [hI]; exact h2⟩
theorem has_iff {l : List Cv} (hv : VL l) {x : Int} : hasB l x = true ↔ ∃ i, i < l.length ∧ stB (cAt l i) x = true := by
  constructor
  · intro h
    unfold hasB at h
    rw [Bool.and_eq_true] at h
    obtain ⟨_, _, _, q⟩ := bs_spec (hv.mono x)
    obtain ⟨g1, g2⟩ := q.1 h.2
    exact ⟨_, g1, (st_iff (hv.1 _ g1)).2 ⟨h.1, g2⟩⟩
  · rintro ⟨i, hi, h⟩
    exact (at_hit hv hi h).1
theorem rfind_fun (ex : Bool) (l : List Cv) (x : Int) (hn : l.length < 2 ^ 60) (hv : VL l) : Fun C P F_rfind [ksA ex l, .i x] [] (.i (atI l x)) [] := by
  refine in_rfind (W := w_rfind) rfl 0 (by simp) rfl (fun id h => absurd rfl h) fun D => ?_
  refine of_eq (rfind_A ex l x 0 _) ?_
  refine loop_inv (W := w_rfind) ctx mixed ok_rfind_0 (I_rfi ex l x) (fun i => i ≤ l.length ∧ ∀ k, k < i → stB (cAt l k) x = false) (fun i => l.length - i) 0 ⟨Nat.zero_le _, fun k hk => absurd hk (Nat.not_lt_zero k)⟩ ?_ fun i hi => ?_
  · exact ent_of [(2, 2)] rfl (tm_cons rfl (sm_same rfl) (tm_cons rfl (sm_ptr rfl) (tm_cons rfl (sm_same rfl) tm_nil))) (hp_cons rfl rfl (sm_same rfl) hp_nil)
  obtain ⟨h1, h2⟩ := hi
  refine of_eq (rfind_L0 ex l x i 0 _) ⟨fun h => ?_, fun h => ?_⟩
  · simp only [decide_eq_true_eq] at h
    refine ⟨(by first | omega | decide | (unfold I64; omega)), stands_fun (cAt l i) (hv.1 i (by omega)) x, trivial, fun h3 => ?_, fun h3 => ⟨(by first | omega | decide | (unfold I64; omega)), round_end (i + 1) ⟨by omega, fun k hk => ?_⟩ (ent_of [(2, 2)] rfl (tm_cons rfl (sm_same rfl) (tm_cons rfl (sm_ptr rfl) (tm_cons rfl (sm_same rfl) tm_nil))) (hp_cons rfl rfl (sm_same rfl) hp_nil)) (by dsimp only; omega)⟩⟩
    · obtain ⟨g1, g2⟩ := at_hit hv (by omega) h3
      exact post_tmp rfl (sm_int (by unfold atI; rw [g1, g2]; rfl))
    · by_cases e : k = i
      · rw [e]; exact h3
      · exact h2 k (by omega)
  · simp only [decide_eq_false_iff_not] at h
    have e : hasB l x = false := Bool.eq_false_iff.2 fun hh => by
      obtain ⟨k, hk, g⟩ := (has_iff hv).1 hh
      rw [h2 k (by omega)] at g; cases g
    exact post_tmp rfl (sm_int (by unfold atI; rw [e]; rfl))
theorem shl1N : ∀ n : Nat, n < 13 → shl1 n = ((2 ^ n : Nat) : Int) := by decide
theorem notbad {c : Cv} {n : Int} (h : badC c n = false) : 0 ≤ c.d ∧ c.d ≤ 12 ∧ 0 ≤ c.a ∧ c.a < 2 ^ c.d.toNat ∧ n ≤ loC c := by
  unfold badC at h
  simp only [Bool.or_eq_false_iff, decide_eq_false_iff_not] at h
  obtain ⟨⟨⟨⟨h1, h2⟩, h3⟩, h4⟩, h5⟩ := h
  obtain ⟨m, hm⟩ : ∃ m : Nat, c.d = m := ⟨c.d.toNat, by omega⟩
  rw [hm, shl1N m (by omega)] at h4
  refine ⟨by omega, by omega, by omega, ?_, by omega⟩
  rw [hm, Int.toNat_natCast]
  have : ((2 ^ m : Nat) : Int) = 2 ^ m := by simp
  omega
theorem bad_of {c : Cv} {n : Int} (h : CvOK c) (hn : n ≤ loC c) : badC c n = false := by
  obtain ⟨h0, h1, h2, h3, _⟩ := h
  unfold badC
  simp only [Bool.or_eq_false_iff, decide_eq_false_iff_not]
  obtain ⟨m, hm⟩ : ∃ m : Nat, c.d = m := ⟨c.d.toNat, by omega⟩
  rw [hm, Int.toNat_natCast] at h3
  rw [hm, shl1N m (by omega)]
  have : ((2 ^ m : Nat) : Int) = 2 ^ m := by simp
  exact ⟨⟨⟨⟨by omega, by omega⟩, by omega⟩, by omega⟩, by omega⟩
theorem drop_at {l : List Cv} {i : Nat} (h : i < l.length) : l.drop i = cAt l i :: l.drop (i + 1) := by
  rw [List.drop_eq_getElem_cons h]
  congr 1
  unfold cAt
  rw [List.getD_eq_getElem?_getD, List.getElem?_eq_getElem h]; rfl
theorem go_step {l : List Cv} {i : Nat} (h : i < l.length) (hb : badC (cAt l i) (nxt l i) = false) : validGo (nxt l i) (l.drop i) = validGo (nxt l (i + 1)) (l.drop (i + 1)) := by
  rw [drop_at h]
  simp only [validGo]
  rw [hb]; rfl
theorem okTo.zero (l : List Cv) : okTo l 0 := ⟨Nat.zero_le _, fun k hk => absurd hk (Nat.not_lt_zero k), rfl⟩
theorem okTo.succ {l : List Cv} {i : Nat} (h : okTo l i) (hi : i < l.length) (hb : badC (cAt l i) (nxt l i) = false) : okTo l (i + 1) := by
  refine ⟨by omega, fun k hk => ?_, by rw [h.2.2, go_step hi hb]⟩
  by_cases e : k = i
  · rw [e]; exact hb
  · exact h.2.1 k (by omega)
theorem okTo.not {l : List Cv} {i : Nat} (h : okTo l i) (hi : i < l.length) (hb : badC (cAt l i) (nxt l i) = true) : validB l = false := by
  rw [h.2.2, drop_at hi]
  simp only [validGo]
  rw [if_pos hb]
theorem okTo.all {l : List Cv} {i : Nat} (h : okTo l i) (hi : ¬ i < l.length) : validB l = true := by
  rw [h.2.2, List.drop_eq_nil_of_le (by omega)]; rfl
theorem VL.valid {l : List Cv} (h : VL l) : validB l = true := by
  have key : ∀ i, i ≤ l.length → okTo l i := by
    intro i
    induction i with
    | zero => intro _; exact okTo.zero l
    | succ i ih =>
      intro hi
      refine (ih (by omega)).succ (by omega) (bad_of (h.1 i (by omega)) ?_)
      cases i with
      | zero => exact (cv_facts (h.1 0 (by omega))).1
      | succ i => exact h.2 i (i + 1) (by omega) (by omega)
  exact (key _ (Nat.le_refl _)).all (Nat.lt_irrefl _)
theorem valid_fun (ex : Bool) (l : List Cv) (hn : l.length < 2 ^ 60) : Fun C P F_valid [ksA ex l] [] (.sb (validB l)) [] := by
  refine in_valid (W := w_valid) rfl 0 (by simp) rfl (fun id h => absurd rfl h) fun D => ?_
  refine of_eq (valid_A ex l 0 _) ?_
  refine loop_inv (W := w_valid) ctx mixed ok_valid_0 (I_va ex l) (okTo l) (fun i => l.length - i) 0 (okTo.zero l) ?_ fun i hi => ?_
  · exact ent_of [(1, 1)] rfl (tm_cons rfl (sm_ptr rfl) (tm_cons rfl (sm_same rfl) (tm_cons rfl (sm_same rfl) (tm_cons rfl (sm_same rfl) (tm_cons rfl (sm_same rfl) tm_nil))))) (hp_cons rfl rfl (sm_same rfl) hp_nil)
  refine of_eq (valid_L0 ex l i 0 _) ⟨fun h => ?_, fun h => ?_⟩
  · simp only [decide_eq_true_eq] at h
    have hi' : i < l.length := by omega
    have no : badC (cAt l i) (nxt l i) = true → ∀ {S : St}, look S.tm 2 = some (.v (.bool false)) → FunPost C 52 0 [.tmp 2] (.sb (validB l)) [] .ret S := fun hb S hS => post_tmp hS (sm_b (by rw [hi.not hi' hb]))
    refine ⟨(by first | omega | decide | (unfold I64; omega)), shC_t, fun h1 => no (by simp [badC, h1]) rfl, fun h1 => ⟨fun h2 => no (by simp [badC, h2]) rfl, fun h2 => ⟨fun h3 => no (by simp [badC, h3]) rfl, fun h3 => ⟨?_, fun h4 => no (by unfold badC shl1; rw [h4]; simp) rfl, fun h4 => ?_⟩⟩⟩⟩
    · simp only [decide_eq_false_iff_not] at h1; omega
    have g : ∀ n, n ≤ loC (cAt l i) → badC (cAt l i) n = false := fun n hn => by
      unfold badC; rw [h1, h2, h3]; simp only [decide_eq_false_iff_not] at h4; simp [shl1]; exact ⟨by omega, hn⟩
    obtain ⟨q1, q2, q3, q4, _⟩ := notbad (g _ (Int.le_refl _))
    obtain ⟨f1, f2, f3, f4, f5⟩ := cvb_facts q1 q2 q3 q4
    have f6 := hi_lo (cAt l i)
    change hiC (cAt l i) = (cAt l i).a * szI (cAt l i).d + _ at f6
    refine ⟨size_fun _ q1, trivial, (by first | omega | decide | (unfold I64; omega)), fun h5 => no (by unfold badC loC; rw [h5]; simp) rfl, fun h5 => ⟨(by first | omega | decide | (unfold I64; omega)), size_fun _ q1, trivial, ?_, (by first | omega | decide | (unfold I64; omega)), round_end (i + 1) (hi.succ hi' (g _ ?_)) (ent_of [(1, 1)] rfl (tm_cons rfl (sm_ptr rfl) (tm_cons rfl (sm_same rfl) (tm_cons rfl (sm_same rfl) (tm_cons rfl (sm_same rfl) (tm_cons rfl (sm_same rfl) tm_nil))))) (hp_cons rfl rfl (sm_same rfl) hp_nil)) (by dsimp only; omega)⟩⟩
    · change I64 (hiC (cAt l i)); exact ⟨by omega, by omega⟩
    · simp only [decide_eq_false_iff_not] at h5; unfold loC; omega
  · simp only [decide_eq_false_iff_not] at h
    exact post_tmp rfl (sm_b (by rw [hi.all (by omega)]))
theorem rvalid_fun (ex : Bool) (l : List Cv) (hn : l.length < 2 ^ 60) : Fun C P F_rvalid [ksA ex l] [] (.sb (validB l)) [] := by
  refine in_rvalid (W := w_rvalid) rfl 0 (by simp) rfl (fun id h => absurd rfl h) fun D => ?_
  refine of_eq (rvalid_A ex l 0 _) ?_
  refine loop_inv (W := w_rvalid) ctx mixed ok_rvalid_0 (I_rva ex l) (okTo l) (fun i => l.length - i) 0 (okTo.zero l) ?_ fun i hi => ?_
  · exact ent_of [(1, 1)] rfl (tm_cons rfl (sm_ptr rfl) (tm_cons rfl (sm_same rfl) (tm_cons rfl (sm_same rfl) tm_nil))) (hp_cons rfl rfl (sm_same rfl) hp_nil)
  refine of_eq (rvalid_L0 ex l i 0 _) ⟨fun h => ?_, fun h => ?_⟩
  · simp only [decide_eq_true_eq] at h
    have hi' : i < l.length := by omega
    have no : badC (cAt l i) (nxt l i) = true → ∀ {S : St}, look S.tm 2 = some (.v (.bool false)) → FunPost C 56 0 [.tmp 2] (.sb (validB l)) [] .ret S := fun hb S hS => post_tmp hS (sm_b (by rw [hi.not hi' hb]))
    refine ⟨(by first | omega | decide | (unfold I64; omega)), shC_t, fun h1 => no (by simp [badC, h1]) rfl, fun h1 => ⟨fun h2 => no (by simp [badC, h2]) rfl, fun h2 => ⟨fun h3 => no (by simp [badC, h3]) rfl, fun h3 => ⟨?_, fun h4 => no (by unfold badC shl1; rw [h4]; simp) rfl, fun h4 => ?_⟩⟩⟩⟩
    · simp only [decide_eq_false_iff_not] at h1; omega
    have g : ∀ n, n ≤ loC (cAt l i) → badC (cAt l i) n = false := fun n hn => by
      unfold badC; rw [h1, h2, h3]; simp only [decide_eq_false_iff_not] at h4; simp [shl1]; exact ⟨by omega, hn⟩
    obtain ⟨q1, q2, q3, q4, _⟩ := notbad (g _ (Int.le_refl _))
    obtain ⟨f1, f2, f3, f4, f5⟩ := cvb_facts q1 q2 q3 q4
    have f6 := hi_lo (cAt l i)
    change hiC (cAt l i) = (cAt l i).a * szI (cAt l i).d + _ at f6
    refine ⟨rsize_fun _ q1, trivial, (by first | omega | decide | (unfold I64; omega)), fun h5 => no (by unfold badC loC; rw [h5]; simp) rfl, fun h5 => ⟨(by first | omega | decide | (unfold I64; omega)), rsize_fun _ q1, trivial, ?_, (by first | omega | decide | (unfold I64; omega)), round_end (i + 1) (hi.succ hi' (g _ ?_)) (ent_of [(1, 1)] rfl (tm_cons rfl (sm_ptr rfl) (tm_cons rfl (sm_same rfl) (tm_cons rfl (sm_same rfl) tm_nil))) (hp_cons rfl rfl (sm_same rfl) hp_nil)) (by dsimp only; omega)⟩⟩
    · change I64 (hiC (cAt l i)); exact ⟨by omega, by omega⟩
    · simp only [decide_eq_false_iff_not] at h5; unfold loC; omega
  · simp only [decide_eq_false_iff_not] at h
    exact post_tmp rfl (sm_b (by rw [hi.all (by omega)]))
theorem left_succ {l : List Cv} {i : Nat} (h : i < l.length) : leftI (l.take (i + 1)) = leftI (l.take i) + szI (cAt l i).d := by
  unfold leftI
  rw [take_step (d := c0) h, List.map_append, List.sum_append]
  simp [cAt]
theorem left_le {l : List Cv} (hv : VL l) : ∀ i, i ≤ l.length → 0 ≤ leftI (l.take i) ∧ leftI (l.take i) ≤ nxt l i ∧ nxt l i ≤ 4096
  | 0, _ => ⟨by simp [leftI], by simp [leftI, nxt], by simp [nxt]⟩
  | i + 1, hi => by
    obtain ⟨h1, h2, h3⟩ := left_le hv i (by omega)
    have f := cv_facts (hv.1 i (by omega))
    have e := hi_lo (cAt l i)
    have h4 : nxt l i ≤ loC (cAt l i) := by
      cases i with
      | zero => exact f.1
      | succ i => exact hv.2 i (i + 1) (by omega) (by omega)
    rw [left_succ (by omega)]
    show _ ∧ _ ≤ hiC (cAt l i) ∧ hiC (cAt l i) ≤ 4096
    unfold loC at e h4
    omega
theorem kleft_fun (ex : Bool) (l : List Cv) (hn : l.length < 2 ^ 60) (hv : VL l) : Fun C P F_kleft [ksA ex l] [] (.i (leftI l)) [] := by
  refine in_kleft (W := w_kleft) rfl 0 (by simp) rfl (fun id h => absurd rfl h) fun D => ?_
  refine of_eq (kleft_A ex l 0 _) ?_
  refine loop_inv (W := w_kleft) ctx mixed ok_kleft_0 (I_kl ex l) (fun i => i ≤ l.length) (fun i => l.length - i) 0 (Nat.zero_le _) ?_ fun i hi => ?_
  · exact ent_of [(1, 1)] rfl (tm_cons rfl (sm_ptr rfl) (tm_cons rfl (sm_same rfl) (tm_cons rfl (sm_same rfl) (tm_cons rfl (sm_same rfl) (tm_cons rfl (sm_same rfl) tm_nil))))) (hp_cons rfl rfl (sm_same rfl) hp_nil)
  refine of_eq (kleft_L0 ex l i 0 _) ⟨fun h => ?_, fun h => ?_⟩
  · simp only [decide_eq_true_eq] at h
    have hi' : i < l.length := by omega
    obtain ⟨q1, q2, q3⟩ := left_le hv (i + 1) (by omega)
    have q4 := left_succ hi'
    exact ⟨(by first | omega | decide | (unfold I64; omega)), shC_t, size_fun _ (hv.1 i hi').1, trivial, ⟨by omega, by omega⟩, (by first | omega | decide | (unfold I64; omega)), round_end (i + 1) (by omega) (ent_of [(1, 1)] rfl (tm_cons rfl (sm_ptr rfl) (tm_cons rfl (sm_int q4.symm) (tm_cons rfl (sm_same rfl) (tm_cons rfl (sm_same rfl) (tm_cons rfl (sm_same rfl) tm_nil))))) (hp_cons rfl rfl (sm_same rfl) hp_nil)) (by dsimp only; omega)⟩
  · simp only [decide_eq_false_iff_not] at h
    obtain rfl : i = l.length := by omega
    exact post_tmp rfl (sm_int (by rw [List.take_length]))
theorem rkleft_fun (ex : Bool) (l : List Cv) (hn : l.length < 2 ^ 60) (hv : VL l) : Fun C P F_rkleft [ksA ex l] [] (.i (leftI l)) [] := by
  refine in_rkleft (W := w_rkleft) rfl 0 (by simp) rfl (fun id h => absurd rfl h) fun D => ?_
  refine of_eq (rkleft_A ex l 0 _) ?_
  refine loop_inv (W := w_rkleft) ctx mixed ok_rkleft_0 (I_rkl ex l) (fun i => i ≤ l.length) (fun i => l.length - i) 0 (Nat.zero_le _) ?_ fun i hi => ?_
  · exact ent_of [(1, 1)] rfl (tm_cons rfl (sm_ptr rfl) (tm_cons rfl (sm_same rfl) (tm_cons rfl (sm_same rfl) tm_nil))) (hp_cons rfl rfl (sm_same rfl) hp_nil)
  refine of_eq (rkleft_L0 ex l i 0 _) ⟨fun h => ?_, fun h => ?_⟩
  · simp only [decide_eq_true_eq] at h
    have hi' : i < l.length := by omega
    obtain ⟨q1, q2, q3⟩ := left_le hv (i + 1) (by omega)
    have q4 := left_succ hi'
    exact ⟨(by first | omega | decide | (unfold I64; omega)), rsize_fun _ (hv.1 i hi').1, trivial, ⟨by omega, by omega⟩, (by first | omega | decide | (unfold I64; omega)), round_end (i + 1) (by omega) (ent_of [(1, 1)] rfl (tm_cons rfl (sm_ptr rfl) (tm_cons rfl (sm_int q4.symm) (tm_cons rfl (sm_same rfl) tm_nil))) (hp_cons rfl rfl (sm_same rfl) hp_nil)) (by dsimp only; omega)⟩
  · simp only [decide_eq_false_iff_not] at h
    obtain rfl : i = l.length := by omega
    exact post_tmp rfl (sm_int (by rw [List.take_length]))
end Go.Bu.W

namespace Go.Bu.W
open Sp
def wayC (c : Cv) (id : Int) : Nat → Cv
  | 0 => c
  | j + 1 => stepC (wayC c id j) id
def leafC (c : Cv) (id : Int) : Cv := wayC c id (12 - c.d.toNat)
def keyN (l : List Cv) (id : Int) : Nat → Nat := (leafC (cAt l (findI l id)) id).k
abbrev kz : Nat → Nat := fun _ => 0
def crYK : List AV → List (Nat × Blk) → Option (AV × List (Nat × Blk))
  | [_, y], [(0, .c _)] => some (.v (.bool true), [(0, .c (kyA (toCv y).k))])
  | _, _ => none
def crWay : List AV → Option (AV × List (Nat × Blk))
  | [x, i] => some (.fn (.func 53) [.ptr 0 [], .ptr 1 []], [(0, .c (cvA (toCv x))), (1, .c (.i (asI i)))])
  | _ => none
def keyR (l : List Cv) (id : Int) : Nat → Nat := if hasB l id then keyN l id else kz
def keyE (l : List Cv) (id : Int) : Int := if inR id then (if hasB l id then 0 else 60) else 1
def crKey : List AV → Option (AV × List (Nat × Blk))
  | [x, i] => some (.tup [kyA (keyR (toKs x) (asI i)), .i (keyE (toKs x) (asI i))], [])
  | _ => none
def crRKey : List AV → Option (AV × List (Nat × Blk))
  | [x, i] => some (.st [kyA (keyR (toKs x) (asI i)), .i (keyE (toKs x) (asI i))], [])
  | _ => none
def crS3 (g : Nat) (args : List AV) (H : List (Nat × Blk)) : Option (AV × List (Nat × Blk)) :=
  sel (Nat.beq g F_way) (crWay args) <| sel (Nat.beq g F_key) (crKey args) <| sel (Nat.beq g F_rkey) (crRKey args) <| sel (Nat.beq g F_got) (crRKey args) <| crS2 g args H
def wayK (keep : List Nat) (nt : Nat) (cuts : List Nat) : Way := ⟨crS3, fun _ => false, keep, [], nt, cuts, []⟩
def wayYK (keep : List Nat) (nt : Nat) (cuts : List Nat) : Way := ⟨fun g args H => sel (Nat.beq g 1000000) (crYK args H) (crS1 g args H), fun _ => false, keep, [], nt, cuts, [2]⟩
def w_way : Way := wayK [0, 1, 2, 3, 4] 6 []
def w_key : Way := wayK [0, 1, 2, 4, 5, 6, 7, 8, 10, 16, 25, 39, 41] 45 []
def w_rkey : Way := wayK [0, 1, 2, 4, 5, 6, 12, 18, 27] 36 []
def w_got : Way := wayK [0, 1, 2, 4, 5, 6] 16 []
def w_way1 : Way := wayYK [0, 1, 2, 4, 5, 8, 27] 28 []
def I_wk (c : Cv) (id : Int) (l j : Nat) : St := { tm := [(0, ryld l), (1, .ptr 0 []), (2, .ptr 1 [])], hp := [(0, .c (cvA (wayC c id j))), (1, .c (.i id)), (2, .c (kyA (wayC c id j).k))], seen := [0, 1, 2] }
def I_rk (ex : Bool) (l : List Cv) (c : Cv) (id : Int) (j : Nat) : St := { tm := [(1, .i id), (4, .ptr 4 []), (6, .ptr 6 [])], hp := [(4, .c (.st [kyA kz, .i 0])), (6, .c (cvA (wayC c id j)))], seen := [4, 6] }
def tmKey (ex : Bool) (l : List Cv) (x i : Int) (b : Bool) : List (Nat × AV) := [(0, ksA ex l), (1, .i x), (5, .i 0), (6, .i i), (7, .sb b), (8, .ptr 2 []), (16, .v (.bool false)), (25, .v (.bool false)), (39, .fn (.func 53) [.ptr 0 [], .ptr 1 []])]
def S_keyb (ex : Bool) (l : List Cv) (x i : Int) (b : Bool) (s c : Cv) (k : Nat → Nat) : St := { tm := parTm [40, 41] [cvA s, cvA c] (tmIn (posIn [(0, .c (kyA k))] [2]) (tmKey ex l x i b)), hp := [(0, .c (kyA k))], seen := [0] }
def S_keyr (k : Nat → Nat) : St := { tm := [(4, .ptr 4 []), (8, .ptr 8 [])], hp := [(4, .c (kyA kz)), (8, .c (kyA k))], seen := [4, 8] }

theorem key_B0 (ex : Bool) (l : List Cv) (x i : Int) (b : Bool) (s c : Cv) (k : Nat → Nat) {D : Dom} (K : Nat) (Φ : Ex → St → Prop) :
  (Holds C P 45 D K Φ (vc C w_key asg_key_0 [] (S_keyb ex l x i b s c k) (nx fun S' => vc C w_key rbd_key_0 [] S' lf))) =
  ((W.ShC) ∧
 ((W.Sh32) ∧
 (Φ Ex.normal (St.mk [(0, (W.ksA ex l)), (1, (AV.i x)), (5, (AV.i (0 : Int))), (6, (AV.i i)), (7, (AV.sb b)), (8, (AV.ptr 0 [])), (10, (AV.ptr 10 [])), (16, (AV.v (Value.bool false))), (25, (AV.v (Value.bool false))), (41, (W.cvA c))] [(0, (Blk.c (W.kyA (W.Cv.k c)))), (10, (Blk.c (W.cvA c)))] [10, 0])))) := by kernel_rfl
theorem key_R0 (k : Nat → Nat) {D : Dom} (K : Nat) (Φ : Ex → St → Prop) :
  (Holds C P 45 D K Φ (after C w_key b_key [1, 1, 1, 1, 1, 0, 1, 0] [] lf .normal (S_keyr k))) =
  ((W.Sh32) ∧
 (Φ Ex.ret (St.mk [(4, (AV.ptr 4 [])), (5, (AV.i (0 : Int))), (8, (AV.ptr 8 []))] [(4, (Blk.c (AV.arr 32 1 (fun (i : Nat) => (AV.v (Value.int IntKind.u8 (((k i) : Nat) : Int))))))), (8, (Blk.c (AV.arr 32 1 (fun (i : Nat) => (AV.v (Value.int IntKind.u8 (((k i) : Nat) : Int)))))))] [4, 8]))) := by kernel_rfl
theorem way_A (c : Cv) (i : Int) {D : Dom} (K : Nat) (Φ : Ex → St → Prop) :
  (Holds C P 6 D K Φ (vc C w_way b_way [] (start [cvA c, .i i] []) lf)) =
  (Φ Ex.ret (St.mk [(0, (W.cvA c)), (1, (AV.i i)), (2, (AV.ptr 2 [])), (3, (AV.ptr 3 [])), (4, (AV.fn (Fn.func 53) [(AV.ptr 2 []), (AV.ptr 3 [])]))] [(2, (Blk.c (W.cvA c))), (3, (Blk.c (AV.i i)))] [3, 2])) := by kernel_rfl
set_option maxRecDepth 1000000 in
theorem key_A (ex : Bool) (l : List Cv) (x : Int) {D : Dom} (K : Nat) (Φ : Ex → St → Prop) :
  (Holds C P 45 D K Φ (vc C w_key b_key [] (start [ksA ex l, .i x] []) lf)) =
  (((decide (x < (0 : Int))) = true →
 ((W.Sh32) ∧
  (Φ Ex.ret (St.mk [(0, (W.ksA ex l)), (1, (AV.i x)), (2, (AV.ptr 2 [])), (4, (AV.ptr 4 [])), (5, (AV.i (1 : Int))), (16, (AV.v (Value.bool true)))] [(2, (Blk.c (W.ksA ex l))), (4, (Blk.c (AV.arr 32 1 (fun (x1 : Nat) => (AV.v (Value.int IntKind.u8 (0 : Int)))))))] [4, 2])))) ∧
 ((decide (x < (0 : Int))) = false →
 (((decide (x ≥ (4096 : Int))) = true →
  ((W.Sh32) ∧
   (Φ Ex.ret (St.mk [(0, (W.ksA ex l)), (1, (AV.i x)), (2, (AV.ptr 2 [])), (4, (AV.ptr 4 [])), (5, (AV.i (1 : Int))), (16, (AV.v (Value.bool true)))] [(2, (Blk.c (W.ksA ex l))), (4, (Blk.c (AV.arr 32 1 (fun (x1 : Nat) => (AV.v (Value.int IntKind.u8 (0 : Int)))))))] [4, 2])))) ∧
  ((decide (x ≥ (4096 : Int))) = false →
  (Fun W.C W.P 35 [(W.ksA ex l), (AV.i x)] [] (AV.tup [(AV.i (if ((W.inR x) = true) then (((W.findI (W.toKs (W.ksA ex l)) x) : Nat) : Int) else (0 : Int))), (AV.sb (W.hasB (W.toKs (W.ksA ex l)) x))]) [] ∧
   (((! (W.hasB (W.toKs (W.ksA ex l)) x)) = true →
   ((W.Sh32) ∧
    (Φ Ex.ret (St.mk [(0, (W.ksA ex l)), (1, (AV.i x)), (2, (AV.ptr 2 [])), (4, (AV.ptr 4 [])), (5, (AV.i (60 : Int))), (6, (AV.i (if ((W.inR x) = true) then (((W.findI (W.toKs (W.ksA ex l)) x) : Nat) : Int) else (0 : Int)))), (7, (AV.sb (W.hasB (W.toKs (W.ksA ex l)) x))), (16, (AV.v (Value.bool false))), (25, (AV.v (Value.bool true)))] [(2, (Blk.c (W.ksA ex l))), (4, (Blk.c (AV.arr 32 1 (fun (x1 : Nat) => (AV.v (Value.int IntKind.u8 (0 : Int)))))))] [4, 2])))) ∧
   ((! (W.hasB (W.toKs (W.ksA ex l)) x)) = false →
   ((((0 : Int) ≤ (if ((W.inR x) = true) then (((W.findI (W.toKs (W.ksA ex l)) x) : Nat) : Int) else (0 : Int))) ∧ ((if ((W.inR x) = true) then (((W.findI (W.toKs (W.ksA ex l)) x) : Nat) : Int) else (0 : Int)) < (((List.length l) : Nat) : Int))) ∧
    ((W.Sh32) ∧
    ((((0 : Int) ≤ (if ((W.inR x) = true) then (((W.findI (W.toKs (W.ksA ex l)) x) : Nat) : Int) else (0 : Int))) ∧ ((if ((W.inR x) = true) then (((W.findI (W.toKs (W.ksA ex l)) x) : Nat) : Int) else (0 : Int)) < (((List.length l) : Nat) : Int))) ∧
    (Fun W.C W.P 36 [(W.cvA (W.cAt l (Int.toNat (if ((W.inR x) = true) then (((W.findI (W.toKs (W.ksA ex l)) x) : Nat) : Int) else (0 : Int))))), (AV.i x)] [] (AV.fn (Fn.func (53 : FuncId)) [(AV.ptr 0 []), (AV.ptr 1 [])]) [(0, (Blk.c (W.cvA (W.cAt l (Int.toNat (if ((W.inR x) = true) then (((W.findI (W.toKs (W.ksA ex l)) x) : Nat) : Int) else (0 : Int))))))), (1, (Blk.c (AV.i x)))] ∧
    (RngOK W.C W.P 45 D K (stmtAt b_key [1, 1, 1, 1, 1, 0, 1, 0]) (St.mk [(0, (W.ksA ex l)), (1, (AV.i x)), (2, (AV.ptr 2 [])), (4, (AV.ptr 4 [])), (5, (AV.i (0 : Int))), (6, (AV.i (if ((W.inR x) = true) then (((W.findI (W.toKs (W.ksA ex l)) x) : Nat) : Int) else (0 : Int)))), (7, (AV.sb (W.hasB (W.toKs (W.ksA ex l)) x))), (8, (AV.ptr 8 [])), (16, (AV.v (Value.bool false))), (25, (AV.v (Value.bool false))), (39, (AV.fn (Fn.func (53 : FuncId)) [(AV.ptr 39 []), (AV.ptr 1039 [])]))] [(2, (Blk.c (W.ksA ex l))), (4, (Blk.c (AV.arr 32 1 (fun (x1 : Nat) => (AV.v (Value.int IntKind.u8 (0 : Int))))))), (8, (Blk.c (W.kyA (W.Cv.k (W.cAt l (Int.toNat (if ((W.inR x) = true) then (((W.findI (W.toKs (W.ksA ex l)) x) : Nat) : Int) else (0 : Int)))))))), (39, (Blk.c (W.cvA (W.cAt l (Int.toNat (if ((W.inR x) = true) then (((W.findI (W.toKs (W.ksA ex l)) x) : Nat) : Int) else (0 : Int))))))), (1039, (Blk.c (AV.i x)))] [1039, 39, 8, 4, 2]) (fun (e : Ex) (S' : St) => Holds W.C W.P 45 D K Φ (after W.C w_key b_key [1, 1, 1, 1, 1, 0, 1, 0] [] lf e S')))))))))))))) := by kernel_rfl
set_option maxRecDepth 1000000 in
theorem rkey_A (ex : Bool) (l : List Cv) (x : Int) {D : Dom} (K : Nat) (Φ : Ex → St → Prop) :
  (Holds C P 36 D K Φ (vc C w_rkey b_rkey [] (start [ksA ex l, .i x] []) lf)) =
  (((decide (x < (0 : Int))) = true →
 (((W.Sh32) ∧ (((true = true) ∧ (true = true)) ∧ True)) ∧
  (Φ Ex.ret (St.mk [(0, (W.ksA ex l)), (1, (AV.i x)), (2, (AV.ptr 2 [])), (4, (AV.ptr 4 [])), (12, (AV.v (Value.bool true)))] [(2, (Blk.c (W.ksA ex l))), (4, (Blk.c (AV.st [(AV.arr 32 1 (fun (x1 : Nat) => (AV.v (Value.int IntKind.u8 (0 : Int))))), (AV.i (1 : Int))])))] [4, 2])))) ∧
 ((decide (x < (0 : Int))) = false →
 (((decide (x ≥ (4096 : Int))) = true →
  (((W.Sh32) ∧ (((true = true) ∧ (true = true)) ∧ True)) ∧
   (Φ Ex.ret (St.mk [(0, (W.ksA ex l)), (1, (AV.i x)), (2, (AV.ptr 2 [])), (4, (AV.ptr 4 [])), (12, (AV.v (Value.bool true)))] [(2, (Blk.c (W.ksA ex l))), (4, (Blk.c (AV.st [(AV.arr 32 1 (fun (x1 : Nat) => (AV.v (Value.int IntKind.u8 (0 : Int))))), (AV.i (1 : Int))])))] [4, 2])))) ∧
  ((decide (x ≥ (4096 : Int))) = false →
  (Fun W.C W.P 47 [(W.ksA ex l), (AV.i x)] [] (AV.i (W.atI (W.toKs (W.ksA ex l)) x)) [] ∧
   (True ∧
   (((decide ((W.atI (W.toKs (W.ksA ex l)) x) < (0 : Int))) = true →
   (((W.Sh32) ∧ (((true = true) ∧ (true = true)) ∧ True)) ∧
    (Φ Ex.ret (St.mk [(0, (W.ksA ex l)), (1, (AV.i x)), (2, (AV.ptr 2 [])), (4, (AV.ptr 4 [])), (5, (AV.i (W.atI (W.toKs (W.ksA ex l)) x))), (12, (AV.v (Value.bool false))), (18, (AV.v (Value.bool true)))] [(2, (Blk.c (W.ksA ex l))), (4, (Blk.c (AV.st [(AV.arr 32 1 (fun (x1 : Nat) => (AV.v (Value.int IntKind.u8 (0 : Int))))), (AV.i (60 : Int))])))] [4, 2])))) ∧
   ((decide ((W.atI (W.toKs (W.ksA ex l)) x) < (0 : Int))) = false →
   ((((0 : Int) ≤ (W.atI (W.toKs (W.ksA ex l)) x)) ∧ ((W.atI (W.toKs (W.ksA ex l)) x) < (((List.length l) : Nat) : Int))) ∧
    ((W.ShC) ∧
    (LoopOK W.C W.P 36 D K (bodyAt b_rkey [1, 1, 1, 1, 1, 0, 0]) (St.mk [(0, (W.ksA ex l)), (1, (AV.i x)), (2, (AV.ptr 2 [])), (4, (AV.ptr 4 [])), (5, (AV.i (W.atI (W.toKs (W.ksA ex l)) x))), (6, (AV.ptr 6 [])), (12, (AV.v (Value.bool false))), (18, (AV.v (Value.bool false)))] [(2, (Blk.c (W.ksA ex l))), (4, (Blk.c (AV.st [(AV.arr 32 1 (fun (x1 : Nat) => (AV.v (Value.int IntKind.u8 (0 : Int))))), (AV.i (0 : Int))]))), (6, (Blk.c (W.cvA (W.cAt l (Int.toNat (W.atI (W.toKs (W.ksA ex l)) x))))))] [6, 4, 2]) (fun (e : Ex) (S' : St) => Holds W.C W.P 36 D K Φ (after W.C w_rkey b_rkey [1, 1, 1, 1, 1, 0, 0] [] lf e S'))))))))))))) := by kernel_rfl
noncomputable abbrev bd_rkey_0 : Code := bodyAt (b_rkey) [1, 1, 1, 1, 1, 0, 0]
theorem ok_rkey_0 : codeOK bd_rkey_0 = true := by kernel_rfl
noncomputable abbrev rest_rkey_0 (D : Dom) (K : Nat) (Φ : Ex → St → Prop) : Ex → St → Prop := fun e S' => Holds C P 36 D K Φ (after C w_rkey (b_rkey) [1, 1, 1, 1, 1, 0, 0] [] lf e S')
theorem rkey_L0 (ex : Bool) (l : List Cv) (c : Cv) (x : Int) (j : Nat) {D : Dom} (K : Nat) (Φ : Ex → St → Prop) :
  (Holds C P 36 D K (RoundQ C 36 D K (I_rk ex l c x) (fun j => j ≤ 12 - c.d.toNat) (fun j => 12 - c.d.toNat - j) ((fun j => 12 - c.d.toNat - j) (j)) (rest_rkey_0 D K Φ)) (vc C w_rkey bd_rkey_0 [] ((I_rk ex l c x) (j)) lf)) =
  (((decide ((W.Cv.d (W.wayC c x j)) < (12 : Int))) = true →
 (Fun W.C W.P 49 [(W.cvA (W.wayC c x j)), (AV.i x)] [] (AV.i (W.sideI (W.wayC c x j) x)) [] ∧
  (True ∧
  (Fun W.C W.P 48 [(W.cvA (W.wayC c x j)), (AV.i (W.sideI (W.wayC c x j) x))] [] (W.cvA (W.stepC (W.wayC c x j) x)) [] ∧
  ((True ∧ (True ∧ ((∀ (i : Nat), ((i < 32) → True)) ∧ True))) ∧
  ((W.ShC) ∧
  ((RoundQ C 36 D K (I_rk ex l c x) (fun j => j ≤ 12 - c.d.toNat) (fun j => 12 - c.d.toNat - j) ((fun j => 12 - c.d.toNat - j) (j)) (rest_rkey_0 D K Φ)) Ex.normal (St.mk [(1, (AV.i x)), (4, (AV.ptr 4 [])), (6, (AV.ptr 6 [])), (27, (AV.v (Value.bool true)))] [(4, (Blk.c (AV.st [(AV.arr 32 1 (fun (i : Nat) => (AV.v (Value.int IntKind.u8 (((W.kz i) : Nat) : Int))))), (AV.i (0 : Int))]))), (6, (Blk.c (W.cvA (W.stepC (W.wayC c x j) x))))] [4, 6])))))))) ∧
 ((decide ((W.Cv.d (W.wayC c x j)) < (12 : Int))) = false →
 (((W.Sh32) ∧ (((true = true) ∧ (true = true)) ∧ True)) ∧
  (Φ Ex.ret (St.mk [(1, (AV.i x)), (4, (AV.ptr 4 [])), (6, (AV.ptr 6 [])), (27, (AV.v (Value.bool false)))] [(4, (Blk.c (AV.st [(W.kyA (W.Cv.k (W.wayC c x j))), (AV.i (0 : Int))]))), (6, (Blk.c (W.cvA (W.wayC c x j))))] [4, 6]))))) := by kernel_rfl
theorem got_A (ex : Bool) (l : List Cv) (x : Int) {D : Dom} (K : Nat) (Φ : Ex → St → Prop) :
  (Holds C P 16 D K Φ (vc C w_got b_got [] (start [ksA ex l, .i x] []) lf)) =
  (Fun W.C W.P 40 [(W.ksA ex l), (AV.i x)] [] (AV.tup [(W.kyA (W.keyR (W.toKs (W.ksA ex l)) x)), (AV.i (W.keyE (W.toKs (W.ksA ex l)) x))]) [] ∧
 ((W.Sh32) ∧
 (((W.Sh32) ∧ (((true = true) ∧ (true = true)) ∧ True)) ∧
 (Φ Ex.ret (St.mk [(0, (W.ksA ex l)), (1, (AV.i x)), (2, (AV.ptr 2 [])), (4, (AV.ptr 4 [])), (5, (AV.ptr 5 [])), (6, (AV.i (W.keyE (W.toKs (W.ksA ex l)) x)))] [(2, (Blk.c (W.ksA ex l))), (4, (Blk.c (AV.st [(W.kyA (W.keyR (W.toKs (W.ksA ex l)) x)), (AV.i (W.keyE (W.toKs (W.ksA ex l)) x))]))), (5, (Blk.c (W.kyA (W.keyR (W.toKs (W.ksA ex l)) x))))] [5, 4, 2]))))) := by kernel_rfl
theorem way1_A (c : Cv) (id : Int) (l : Nat) {D : Dom} (K : Nat) (Φ : Ex → St → Prop) :
  (Holds C P 28 D K Φ (vc C w_way1 b_way1 [] (start [ryld l, .ptr 0 [], .ptr 1 []] [(0, .c (cvA c)), (1, .c (.i id)), (2, .c (kyA c.k))]) lf)) =
  (LoopOK W.C W.P 28 D K (bodyAt b_way1 [0]) (St.mk [(0, (AV.v (Value.func (Fn.yield l) (List.toArray []) (List.toArray [])))), (1, (AV.ptr 0 [])), (2, (AV.ptr 1 []))] [(0, (Blk.c (W.cvA c))), (1, (Blk.c (AV.i id))), (2, (Blk.c (W.kyA (W.Cv.k c))))] [0, 1, 2]) (fun (e : Ex) (S' : St) => Holds W.C W.P 28 D K Φ (after W.C w_way1 b_way1 [0] [] lf e S'))) := by kernel_rfl
noncomputable abbrev bd_way1_0 : Code := bodyAt (b_way1) [0]
theorem ok_way1_0 : codeOK bd_way1_0 = true := by kernel_rfl
noncomputable abbrev rest_way1_0 (D : Dom) (K : Nat) (Φ : Ex → St → Prop) : Ex → St → Prop := fun e S' => Holds C P 28 D K Φ (after C w_way1 (b_way1) [0] [] lf e S')
theorem way1_L0 (c : Cv) (id : Int) (l j : Nat) {D : Dom} (K : Nat) (Φ : Ex → St → Prop) :
  (Holds C P 28 D K (RoundQ C 28 D K (I_wk c id l) (fun j => j ≤ 12 - c.d.toNat) (fun j => 12 - c.d.toNat - j) ((fun j => 12 - c.d.toNat - j) (j)) (rest_way1_0 D K Φ)) (vc C w_way1 bd_way1_0 [] ((I_wk c id l) (j)) lf)) =
  (((decide ((W.Cv.d (W.wayC c id j)) < (12 : Int))) = true →
 ((I64 ((W.Cv.d (W.wayC c id j)) + (1 : Int))) ∧
  (Fun W.C W.P 45 [(AV.i ((W.Cv.d (W.wayC c id j)) + (1 : Int)))] [] (AV.i (W.szI ((W.Cv.d (W.wayC c id j)) + (1 : Int)))) [] ∧
  (True ∧
  (((W.szI ((W.Cv.d (W.wayC c id j)) + (1 : Int))) ≠ (0 : Int)) ∧
  ((I64 (Int.tdiv id (W.szI ((W.Cv.d (W.wayC c id j)) + (1 : Int))))) ∧
  (((2 : Int) ≠ (0 : Int)) ∧
  ((I64 ((1 : Int) - (W.sideI (W.wayC c id j) id))) ∧
  (Fun W.C W.P 54 [(W.cvA (W.wayC c id j)), (AV.i ((1 : Int) - (W.sideI (W.wayC c id j) id)))] [] (W.cvA (W.sibC (W.wayC c id j) id)) [] ∧
  ((True ∧ (True ∧ ((∀ (i : Nat), ((i < 32) → True)) ∧ True))) ∧
  ((W.ShC) ∧
  (Fun W.C W.P 54 [(W.cvA (W.wayC c id j)), (AV.i (W.sideI (W.wayC c id j) id))] [] (W.cvA (W.stepC (W.wayC c id j) id)) [] ∧
  ((True ∧ (True ∧ ((∀ (i : Nat), ((i < 32) → True)) ∧ True))) ∧
  ((W.ShC) ∧
  (YFun W.C W.P D [2] l [(W.cvA (W.sibC (W.wayC c id j) id)), (W.cvA (W.stepC (W.wayC c id j) id))] [(0, (Blk.c (W.kyA (W.Cv.k (W.wayC c id j)))))] (AV.v (Value.bool true)) [(0, (Blk.c (W.kyA (W.Cv.k (W.stepC (W.wayC c id j) id)))))] ∧
  ((RoundQ C 28 D K (I_wk c id l) (fun j => j ≤ 12 - c.d.toNat) (fun j => 12 - c.d.toNat - j) ((fun j => 12 - c.d.toNat - j) (j)) (rest_way1_0 D K Φ)) Ex.normal (St.mk [(0, (AV.v (Value.func (Fn.yield l) (List.toArray []) (List.toArray [])))), (1, (AV.ptr 0 [])), (2, (AV.ptr 1 [])), (4, (AV.i (W.sideI (W.wayC c id j) id))), (5, (AV.ptr 5 [])), (8, (AV.v (Value.bool true))), (27, (AV.v (Value.bool false)))] [(0, (Blk.c (W.cvA (W.stepC (W.wayC c id j) id)))), (1, (Blk.c (AV.i id))), (2, (Blk.c (W.kyA (W.Cv.k (W.stepC (W.wayC c id j) id))))), (5, (Blk.c (W.cvA (W.sibC (W.wayC c id j) id))))] [5, 0, 1, 2]))))))))))))))))) ∧
 ((decide ((W.Cv.d (W.wayC c id j)) < (12 : Int))) = false →
 (Φ Ex.normal (St.mk [(0, (AV.v (Value.func (Fn.yield l) (List.toArray []) (List.toArray [])))), (1, (AV.ptr 0 [])), (2, (AV.ptr 1 [])), (8, (AV.v (Value.bool false)))] [(0, (Blk.c (W.cvA (W.wayC c id j)))), (1, (Blk.c (AV.i id))), (2, (Blk.c (W.kyA (W.Cv.k (W.wayC c id j)))))] [0, 1, 2])))) := by kernel_rfl

theorem way_fun (c : Cv) (i : Int) : Fun C P F_way [cvA c, .i i] [] (.fn (.func 53) [.ptr 0 [], .ptr 1 []]) [(0, .c (cvA c)), (1, .c (.i i))] := by
  refine in_way (W := w_way) rfl 0 (by simp) rfl (fun id h => absurd rfl h) fun D => ?_
  refine of_eq (way_A c i 0 _) ?_
  exact funPost_of (r' := .fn (.func 53) [.ptr 0 [], .ptr 1 []]) (S2 := { tm := [(4, .fn (.func 53) [.ptr 0 [], .ptr 1 []])], hp := [(0, .c (cvA c)), (1, .c (.i i))], seen := [0, 1] }) (by simp)
    (ent_of [(2, 0), (3, 1)] rfl (tm_cons rfl (sm_fn (sms_cons (sm_ptr rfl) (sms_cons (sm_ptr rfl) sms_nil))) tm_nil) (hp_cons rfl rfl (sm_same rfl) (hp_cons rfl rfl (sm_same rfl) hp_nil))) rfl (sm_fn (sms_cons (sm_ptr rfl) (sms_cons (sm_ptr rfl) sms_nil))) fun _ _ h => h
theorem side_nat {c : Cv} (h : CvOK c) (hd : c.d < 12) {id : Int} (h0 : 0 ≤ id) (h1 : id < 4096) : sideI c id = ((sideN c id : Nat) : Int) ∧ sideN c id < 2 := by
  have hs := (sz_mul (d := c.d + 1) (by have := h.1; omega) (by omega)).2
  have h2 := (tdiv_I64 h0 h1 hs).2
  have h3 : 0 ≤ sideI c id ∧ sideI c id < 2 := by
    unfold sideI
    rw [Int.tmod_eq_emod_of_nonneg h2]
    omega
  unfold sideN
  omega
theorem step_ok {c : Cv} (h : CvOK c) (hd : c.d < 12) {id : Int} (h0 : 0 ≤ id) (h1 : id < 4096) : CvOK (stepC c id) := ch_ok h hd _ (side_nat h hd h0 h1).2
theorem wayC_d (c : Cv) (id : Int) : ∀ j, (wayC c id j).d = c.d + j
  | 0 => by simp [wayC]
  | j + 1 => by show (wayC c id j).d + 1 = _; rw [wayC_d c id j]; omega
theorem wayC_ok {c : Cv} (h : CvOK c) {id : Int} (h0 : 0 ≤ id) (h1 : id < 4096) : ∀ j, j ≤ 12 - c.d.toNat → CvOK (wayC c id j)
  | 0, _ => h
  | j + 1, hj => step_ok (wayC_ok h h0 h1 j (by omega)) (by rw [wayC_d]; have := h.1; omega) h0 h1
theorem below_side {c : Cv} (h : CvOK c) (hd : c.d < 12) {id : Int} (h0 : 0 ≤ id) (h1 : id < 4096) :
    Fun C P F_below [cvA c, .i (sideI c id)] [] (cvA (stepC c id)) [] ∧ Fun C P F_below [cvA c, .i (1 - sideI c id)] [] (cvA (chC c (Int.toNat (1 - sideI c id)))) [] ∧ Fun C P F_follow [cvA c, .i (sideI c id)] [] (cvA (stepC c id)) [] := by
  obtain ⟨e, hlt⟩ := side_nat h hd h0 h1
  have e2 : 1 - sideI c id = ((1 - sideN c id : Nat) : Int) := by omega
  refine ⟨by rw [e]; exact below_fun c h _ hlt, by rw [e2, Int.toNat_natCast]; exact below_fun c h _ (by omega), by rw [e]; exact follow_fun c h _ hlt⟩
theorem side_obl {c : Cv} (h : CvOK c) (hd : c.d < 12) {id : Int} (h0 : 0 ≤ id) (h1 : id < 4096) :
    I64 (c.d + 1) ∧ szI (c.d + 1) ≠ 0 ∧ I64 (Int.tdiv id (szI (c.d + 1))) ∧ I64 (1 - sideI c id) := by
  obtain ⟨e, hlt⟩ := side_nat h hd h0 h1
  have hs := (sz_mul (d := c.d + 1) (by have := h.1; omega) (by omega)).2
  have := h.1
  exact ⟨⟨by omega, by omega⟩, by omega, (tdiv_I64 h0 h1 hs).1, ⟨by omega, by omega⟩⟩
theorem three_id {b b1 b2 : Blk} (id : Nat) (h : look [(0, b), (1, b1), (2, b2)] id ≠ none) : id < 3 := by
  simp only [look] at h
  split at h
  · rename_i e; have := beq_iff.1 e; omega
  · split at h
    · rename_i e; have := beq_iff.1 e; omega
    · split at h
      · rename_i e; have := beq_iff.1 e; omega
      · exact absurd rfl h
theorem way1k_iter {c : Cv} (h : CvOK c) {id : Int} (h0 : 0 ≤ id) (h1 : id < 4096) {tm : List (Nat × AV)} {l : Nat} {q : Loop} (htd : distinct (keysOf tm) = true) (hfx : tmIn (under 3) tm = tm)
    (hY : ∀ n s c' k, YFun C P (domR n tm l q) [2] l [cvA s, cvA c'] [(0, .c (kyA k))] (.v (.bool true)) [(0, .c (kyA c'.k))]) :
    FunE C P (extOf tm q.tmps) (some (l, q)) 3 F_way1 [ryld l, .ptr 0 [], .ptr 1 []] [(0, .c (cvA c)), (1, .c (.i id)), (2, .c (kyA c.k))] (.tup []) [(0, .c (cvA (leafC c id))), (1, .c (.i id)), (2, .c (kyA (leafC c id).k))] := by
  refine inE_way1 (W := w_way1) rfl 3 (by simp) rfl htd hfx fun n => ?_
  refine of_eq (way1_A c id l 3 _) ?_
  refine loop_inv (W := w_way1) ctx mixed ok_way1_0 (I_wk c id l) (fun j => j ≤ 12 - c.d.toNat) (fun j => 12 - c.d.toNat - j) 0 (Nat.zero_le _) ?_ fun j hj => ?_
  · exact ent_of [(0, 0), (1, 1), (2, 2)] rfl (tm_cons rfl (sm_same rfl) (tm_cons rfl (sm_ptr rfl) (tm_cons rfl (sm_ptr rfl) tm_nil))) (hp_cons rfl rfl (sm_same rfl) (hp_cons rfl rfl (sm_same rfl) (hp_cons rfl rfl (sm_same rfl) hp_nil)))
  have hw := wayC_ok h h0 h1 j hj
  have hd := wayC_d c id j
  have hc0 := h.1
  have hc1 := h.2.1
  refine of_eq (way1_L0 c id l j 3 _) ⟨fun hlt => ?_, fun hge => ?_⟩
  · simp only [decide_eq_true_eq] at hlt
    obtain ⟨o1, o2, o3, o4⟩ := side_obl hw hlt h0 h1
    obtain ⟨b1, b2, _⟩ := below_side hw hlt h0 h1
    exact ⟨o1, size_fun _ (by omega), trivial, o2, o3, by decide, o4, b2, ⟨trivial, trivial, fun _ _ => trivial, trivial⟩, shC_t, b1, ⟨trivial, trivial, fun _ _ => trivial, trivial⟩, shC_t, hY n _ _ _,
      round_end (j + 1) (by omega) (ent_of [(0, 0), (1, 1), (2, 2)] rfl (tm_cons rfl (sm_same rfl) (tm_cons rfl (sm_ptr rfl) (tm_cons rfl (sm_ptr rfl) tm_nil))) (hp_cons rfl rfl (sm_same rfl) (hp_cons rfl rfl (sm_same rfl) (hp_cons rfl rfl (sm_same rfl) hp_nil)))) (by dsimp only; omega)⟩
  · simp only [decide_eq_false_iff_not] at hge
    obtain rfl : j = 12 - c.d.toNat := by omega
    exact funPost_of (S2 := { tm := [], hp := [(0, .c (cvA (leafC c id))), (1, .c (.i id)), (2, .c (kyA (leafC c id).k))], seen := [0, 1, 2] }) (by simp) (ent_of [(0, 0), (1, 1), (2, 2)] rfl tm_nil (hp_cons rfl rfl (sm_same rfl) (hp_cons rfl rfl (sm_same rfl) (hp_cons rfl rfl (sm_same rfl) hp_nil)))) rfl (.inl ⟨rfl, rfl⟩) fun _ _ h => h
theorem keyb (ex : Bool) (l : List Cv) (x i : Int) (b : Bool) {la : Nat} {q : Loop} (hq : RecOf 45 #[40, 41] asg_key_0 rbd_key_0 q) (n : Nat) (s c : Cv) (k : Nat → Nat) :
    YFun C P (domR n (tmKey ex l x i b) la q) [2] la [cvA s, cvA c] [(0, .c (kyA k))] (.v (.bool true)) [(0, .c (kyA c.k))] := by
  refine body_ok ctx mixed (W := w_key) (k := 1) (p1 := []) (p2 := []) hq oka_key_0 okr_key_0 rfl (fun p hp => ?_) (fun id h _ => one_id id h) rfl fun m => ?_
  · simp at hp; rcases hp with rfl | rfl <;> exact (by decide)
  refine of_eq (key_B0 ex l x i b s c k 1 _) ⟨shC_t, sh32_t, rfl, { tm := [], hp := [(0, .c (kyA c.k))], seen := [0] }, ent_of [(0, 0)] rfl tm_nil (hp_cons rfl rfl (sm_same rfl) hp_nil), fun _ _ h => h⟩
theorem key_fun (ex : Bool) (l : List Cv) (x : Int) (hn : l.length < 2 ^ 60) (hv : VL l) : Fun C P F_key [ksA ex l, .i x] [] (.tup [kyA (keyR l x), .i (keyE l x)]) [] := by
  refine inR_key (W := w_key) rfl 0 (by simp) rfl (fun id h => absurd rfl h) fun n => ?_
  refine of_eq (key_A ex l x 0 _) ?_
  rw [toKs_A]
  have bad : inR x = false → ∀ {S : St}, look S.tm 4 = some (.ptr 4 []) → look S.tm 5 = some (.i 1) → look S.hp 4 = some (.c (kyA kz)) → FunPost C 45 0 [.cell 4 33, .tmp 5] (.tup [kyA (keyR l x), .i (keyE l x)]) [] .ret S := fun hb S g1 g2 g3 => by
    have e1 : keyR l x = kz := by unfold keyR hasB; rw [hb]; rfl
    have e2 : keyE l x = 1 := by unfold keyE; rw [hb]; rfl
    rw [e1, e2]
    exact post_cell_tmp g1 g3 (sm_same rfl) rfl g2 (sm_int rfl) rfl rfl
  refine ⟨fun h => ⟨sh32_t, bad (by simp only [decide_eq_true_eq] at h; simp [inR]; omega) rfl rfl rfl⟩, fun h => ⟨fun h2 => ⟨sh32_t, bad (by simp only [ge_iff_le, decide_eq_true_eq] at h2; simp [inR]; omega) rfl rfl rfl⟩, fun h2 => ⟨find_fun ex l x hn hv, fun h3 => ?_, fun h3 => ?_⟩⟩⟩
  all_goals have hin : inR x = true := by simp only [ge_iff_le, decide_eq_false_iff_not] at h h2; simp [inR]; omega
  · have h3 := bnt h3
    have e1 : keyR l x = kz := by unfold keyR; rw [h3]; rfl
    have e2 : keyE l x = 60 := by unfold keyE; rw [hin, h3]; rfl
    rw [e1, e2]
    exact ⟨sh32_t, post_cell_tmp rfl rfl (sm_same rfl) rfl rfl (sm_int rfl) rfl rfl⟩
  · have h3 := bnf h3
    obtain ⟨_, _, _, q⟩ := bs_spec (hv.mono x)
    have hf : findI l x < l.length := by
      unfold hasB at h3; rw [Bool.and_eq_true] at h3
      exact (q.1 h3.2).1
    have e1 : keyR l x = (leafC (cAt l (findI l x)) x).k := by unfold keyR keyN; rw [h3]; rfl
    have e2 : keyE l x = 0 := by unfold keyE; rw [hin, h3]; rfl
    rw [e1, e2]
    rw [if_pos hin, Int.toNat_natCast]
    have hx : 0 ≤ x ∧ x < 4096 := by simpa [inR] using hin
    obtain ⟨c, hc⟩ : ∃ c, c = cAt l (findI l x) := ⟨_, rfl⟩
    rw [← hc]
    have hok : CvOK c := by rw [hc]; exact hv.1 _ hf
    refine ⟨(by first | omega | decide | (unfold I64; omega)), sh32_t, (by first | omega | decide | (unfold I64; omega)), way_fun c x, rng_at (D := { base := n }) rfl rfl st_key_0 (S2 := S_keyr (leafC c x).k) rfl Proofs.Tryd.func53 nm_way1 ng_way1 [39, 1039, 8] (args' := [.ptr 0 [], .ptr 1 []]) (H := [(0, .c (cvA c)), (1, .c (.i x)), (2, .c (kyA c.k))])
      (H' := [(0, .c (cvA (leafC c x))), (1, .c (.i x)), (2, .c (kyA (leafC c x).k))]) (r := .tup []) (e := { v := .tup [], wr := [(8, .c (kyA (leafC c x).k)), (39, .c (cvA (leafC c x))), (1039, .c (.i x))], dead := [], rd := [39, 1039, 8] }) (tmL := tmKey ex l x (findI l x : Nat) (hasB l x)) rfl
      (by kernel_rfl) (by kernel_rfl) (by kernel_rfl) (by kernel_rfl) (by kernel_rfl) (by kernel_rfl) (fun la q hq => way1k_iter hok hx.1 hx.2 rfl (by kernel_rfl) fun n s c' k => keyb _ _ _ _ _ hq n s c' k) (fun id h _ => three_id id h) (by kernel_rfl) (ent_of [(4, 4), (8, 8)] rfl (tm_cons rfl (sm_ptr rfl) (tm_cons rfl (sm_ptr rfl) tm_nil)) (hp_cons rfl rfl (sm_same rfl) (hp_cons rfl rfl (sm_same rfl) hp_nil))) ?_⟩
    exact of_eq (key_R0 (leafC c x).k 0 _) ⟨sh32_t, post_cell_tmp rfl rfl (sm_same rfl) rfl rfl (sm_int rfl) rfl rfl⟩
theorem got_fun (ex : Bool) (l : List Cv) (x : Int) (hn : l.length < 2 ^ 60) (hv : VL l) : Fun C P F_got [ksA ex l, .i x] [] (.st [kyA (keyR l x), .i (keyE l x)]) [] := by
  refine in_got (W := w_got) rfl 0 (by simp) rfl (fun id h => absurd rfl h) fun D => ?_
  refine of_eq (got_A ex l x 0 _) ?_
  rw [toKs_A]
  exact ⟨key_fun ex l x hn hv, sh32_t, ⟨sh32_t, ⟨rfl, rfl⟩, trivial⟩, post_cell rfl rfl (sm_same rfl) rfl⟩
theorem rkey_fun (ex : Bool) (l : List Cv) (x : Int) (hn : l.length < 2 ^ 60) (hv : VL l) : Fun C P F_rkey [ksA ex l, .i x] [] (.st [kyA (keyR l x), .i (keyE l x)]) [] := by
  refine in_rkey (W := w_rkey) rfl 0 (by simp) rfl (fun id h => absurd rfl h) fun D => ?_
  refine of_eq (rkey_A ex l x 0 _) ?_
  rw [toKs_A]
  have bad : inR x = false → ∀ {S : St}, look S.tm 4 = some (.ptr 4 []) → look S.hp 4 = some (.c (.st [kyA kz, .i 1])) → FunPost C 36 0 [.cell 4 36] (.st [kyA (keyR l x), .i (keyE l x)]) [] .ret S := fun hb S g1 g3 => by
    have e1 : keyR l x = kz := by unfold keyR hasB; rw [hb]; rfl
    have e2 : keyE l x = 1 := by unfold keyE; rw [hb]; rfl
    rw [e1, e2]
    exact post_cell g1 g3 (sm_same rfl) rfl
  refine ⟨fun h => ⟨⟨sh32_t, ⟨rfl, rfl⟩, trivial⟩, bad (by simp only [decide_eq_true_eq] at h; simp [inR]; omega) rfl rfl⟩, fun h => ⟨fun h2 => ⟨⟨sh32_t, ⟨rfl, rfl⟩, trivial⟩, bad (by simp only [ge_iff_le, decide_eq_true_eq] at h2; simp [inR]; omega) rfl rfl⟩, fun h2 => ⟨rfind_fun ex l x hn hv, trivial, fun h3 => ?_, fun h3 => ?_⟩⟩⟩
  all_goals have hin : inR x = true := by simp only [ge_iff_le, decide_eq_false_iff_not] at h h2; simp [inR]; omega
  · have h3 : hasB l x = false := by
      simp only [decide_eq_true_eq] at h3
      unfold atI at h3
      split at h3
      · omega
      · rename_i g; simpa using g
    have e1 : keyR l x = kz := by unfold keyR; rw [h3]; rfl
    have e2 : keyE l x = 60 := by unfold keyE; rw [hin, h3]; rfl
    rw [e1, e2]
    exact ⟨⟨sh32_t, ⟨rfl, rfl⟩, trivial⟩, post_cell rfl rfl (sm_same rfl) rfl⟩
  · have h3 : hasB l x = true := by
      simp only [decide_eq_false_iff_not] at h3
      unfold atI at h3
      split at h3
      · assumption
      · omega
    obtain ⟨_, _, _, q⟩ := bs_spec (hv.mono x)
    have hf : findI l x < l.length := by
      have h4 := h3
      unfold hasB at h4; rw [Bool.and_eq_true] at h4
      exact (q.1 h4.2).1
    have e1 : keyR l x = (leafC (cAt l (findI l x)) x).k := by unfold keyR keyN; rw [h3]; rfl
    have e2 : keyE l x = 0 := by unfold keyE; rw [hin, h3]; rfl
    have e3 : atI l x = (findI l x : Nat) := by unfold atI; rw [h3]; rfl
    rw [e1, e2, e3, Int.toNat_natCast]
    have hx : 0 ≤ x ∧ x < 4096 := by simpa [inR] using hin
    obtain ⟨c, hc⟩ : ∃ c, c = cAt l (findI l x) := ⟨_, rfl⟩
    rw [← hc]
    have hok : CvOK c := by rw [hc]; exact hv.1 _ hf
    refine ⟨(by first | omega | decide | (unfold I64; omega)), shC_t, loop_inv (W := w_rkey) ctx mixed ok_rkey_0 (I_rk ex l c x) (fun j => j ≤ 12 - c.d.toNat) (fun j => 12 - c.d.toNat - j) 0 (Nat.zero_le _) ?_ fun j hj => ?_⟩
    · exact ent_of [(4, 4), (6, 6)] rfl (tm_cons rfl (sm_same rfl) (tm_cons rfl (sm_ptr rfl) (tm_cons rfl (sm_ptr rfl) tm_nil))) (hp_cons rfl rfl (sm_same rfl) (hp_cons rfl rfl (sm_same rfl) hp_nil))
    have hw := wayC_ok hok hx.1 hx.2 j hj
    have hd := wayC_d c x j
    have hc0 := hok.1
    have hc1 := hok.2.1
    refine of_eq (rkey_L0 ex l c x j 0 _) ⟨fun hlt => ?_, fun hge => ?_⟩
    · simp only [decide_eq_true_eq] at hlt
      exact ⟨side_fun _ hw hlt x hx.1 hx.2, trivial, (below_side hw hlt hx.1 hx.2).2.2, ⟨trivial, trivial, fun _ _ => trivial, trivial⟩, shC_t, round_end (j + 1) (by omega) (ent_of [(4, 4), (6, 6)] rfl (tm_cons rfl (sm_same rfl) (tm_cons rfl (sm_ptr rfl) (tm_cons rfl (sm_ptr rfl) tm_nil))) (hp_cons rfl rfl (sm_same rfl) (hp_cons rfl rfl (sm_same rfl) hp_nil))) (by dsimp only; omega)⟩
    · simp only [decide_eq_false_iff_not] at hge
      obtain rfl : j = 12 - c.d.toNat := by omega
      exact ⟨⟨sh32_t, ⟨rfl, rfl⟩, trivial⟩, post_cell rfl rfl (sm_same rfl) rfl⟩
end Go.Bu.W

namespace Go.Bu.W
open Sp
/-- What is left before, and behind, the way to a chunk; each from the greatest. -/
def befL : Nat → Cv → Int → List Cv
  | 0, _, _ => []
  | n + 1, c, id => if sideN c id = 1 then sibC c id :: befL n (stepC c id) id else befL n (stepC c id) id
def aftL : Nat → Cv → Int → List Cv
  | 0, _, _ => []
  | n + 1, c, id => if sideN c id = 1 then aftL n (stepC c id) id else aftL n (stepC c id) id ++ [sibC c id]
def desF (l : List Cv) (id : Int) : List Cv := l.flatMap fun e => if stB e id = true then befL (12 - e.d.toNat) e id ++ aftL (12 - e.d.toNat) e id else [e]
def hasX (X : Int → Bool) (c : Cv) : Bool := (List.range (szI c.d).toNat).any fun k => X (loC c + k)
def cov (X : Int → Bool) : Nat → Cv → List Cv
  | 0, c => if hasX X c = true then [] else [c]
  | n + 1, c => if hasX X c = true then cov X n (chC c 0) ++ cov X n (chC c 1) else [c]
theorem hasX_iff {X : Int → Bool} {c : Cv} (h : CvOK c) : hasX X c = true ↔ ∃ id, loC c ≤ id ∧ id < hiC c ∧ X id = true := by
  have hs := (cv_facts h).2.2.1
  rw [hi_lo]
  unfold hasX
  rw [List.any_eq_true]
  constructor
  · rintro ⟨k, hk, hx⟩
    have := List.mem_range.1 hk
    exact ⟨_, by omega, by omega, hx⟩
  · rintro ⟨id, h1, h2, h3⟩
    exact ⟨(id - loC c).toNat, List.mem_range.2 (by omega), by rw [show loC c + ((id - loC c).toNat : Int) = id by omega]; exact h3⟩
theorem ch_range {c : Cv} (h : CvOK c) (hd : c.d < 12) : loC (chC c 0) = loC c ∧ hiC (chC c 0) = loC (chC c 1) ∧ hiC (chC c 1) = hiC c ∧ loC c < loC (chC c 1) ∧ loC (chC c 1) < hiC c := by
  have e := sz_succ h.1 hd
  have hs := (sz_mul (d := c.d + 1) (by have := h.1; omega) (by omega)).2
  have e0 : loC (chC c 0) = (2 * c.a + (0 : Nat)) * szI (c.d + 1) := rfl
  have e1 : loC (chC c 1) = (2 * c.a + (1 : Nat)) * szI (c.d + 1) := rfl
  have e2 := hi_lo (chC c 0)
  have e3 := hi_lo (chC c 1)
  have e4 := hi_lo c
  have e5 : loC c = c.a * szI c.d := rfl
  change hiC (chC c 0) = _ + szI (c.d + 1) at e2
  change hiC (chC c 1) = _ + szI (c.d + 1) at e3
  have e6 : c.a * (2 * szI (c.d + 1)) = 2 * c.a * szI (c.d + 1) := by rw [← Int.mul_assoc, Int.mul_comm c.a 2]
  rw [e, e6] at e5
  rw [e] at e4
  simp only [Int.add_mul] at e0 e1
  omega
theorem st_range {c : Cv} (h : CvOK c) {id : Int} : stB c id = true ↔ loC c ≤ id ∧ id < hiC c := by
  rw [st_iff h, cmp_zero h]
  have f := cv_facts h
  have e := hi_lo c
  change loC c ≥ 0 ∧ loC c + _ ≤ 4096 ∧ _ at f
  constructor
  · exact fun g => g.2
  · intro g; refine ⟨?_, g⟩; simp [inR]; omega
theorem side_is {c : Cv} (h : CvOK c) (hd : c.d < 12) {id : Int} (h1 : loC c ≤ id) (h2 : id < hiC c) : sideN c id = if loC (chC c 1) ≤ id then 1 else 0 := by
  obtain ⟨r1, r2, r3, r4, r5⟩ := ch_range h hd
  have f := cv_facts h
  have e := hi_lo c
  change loC c ≥ 0 ∧ loC c + _ ≤ 4096 ∧ _ at f
  have hs := (sz_mul (d := c.d + 1) (by have := h.1; omega) (by omega)).2
  have q : ∀ i : Nat, i < 2 → (loC (chC c i) ≤ id ∧ id < hiC (chC c i)) → sideN c id = i := fun i hi hr => by
    have := (st_range (ch_ok h hd i hi)).2 hr
    unfold stB at this
    simp only [Bool.and_eq_true, decide_eq_true_eq, beq_iff_eq] at this
    have h3 : id.tdiv (szI (c.d + 1)) = 2 * c.a + i := this.2
    unfold sideN sideI
    rw [h3, Int.tmod_eq_emod_of_nonneg (by have := h.2.2.1; omega)]
    omega
  by_cases hc : loC (chC c 1) ≤ id
  · rw [if_pos hc]; exact q 1 (by decide) ⟨hc, by omega⟩
  · rw [if_neg hc]; exact q 0 (by decide) ⟨by omega, by omega⟩
theorem step_is {c : Cv} (h : CvOK c) (hd : c.d < 12) {id : Int} (h1 : loC c ≤ id) (h2 : id < hiC c) :
    (sideN c id = 0 ∧ stepC c id = chC c 0 ∧ sibC c id = chC c 1 ∧ id < loC (chC c 1)) ∨ (sideN c id = 1 ∧ stepC c id = chC c 1 ∧ sibC c id = chC c 0 ∧ loC (chC c 1) ≤ id) := by
  have hs := side_is h hd h1 h2
  have f := cv_facts h
  have e := hi_lo c
  change loC c ≥ 0 ∧ loC c + _ ≤ 4096 ∧ _ at f
  obtain ⟨g1, g2⟩ := side_nat h hd (id := id) (by omega) (by omega)
  unfold stepC sibC
  by_cases hc : loC (chC c 1) ≤ id
  · rw [if_pos hc] at hs
    rw [hs] at g1 ⊢
    rw [g1]; exact .inr ⟨rfl, rfl, rfl, hc⟩
  · rw [if_neg hc] at hs
    rw [hs] at g1 ⊢
    rw [g1]; exact .inl ⟨rfl, rfl, rfl, by omega⟩
theorem cov_none {X : Int → Bool} {c : Cv} (h : hasX X c = false) : ∀ n, cov X n c = [c]
  | 0 => by simp [cov, h]
  | n + 1 => by simp [cov, h]
theorem hasX_congr {X Y : Int → Bool} {c : Cv} (h : CvOK c) (he : ∀ id, loC c ≤ id → id < hiC c → X id = Y id) : hasX X c = hasX Y c := by
  rw [Bool.eq_iff_iff, hasX_iff h, hasX_iff h]
  constructor
  · rintro ⟨id, h1, h2, h3⟩; exact ⟨id, h1, h2, by rw [← he id h1 h2]; exact h3⟩
  · rintro ⟨id, h1, h2, h3⟩; exact ⟨id, h1, h2, by rw [he id h1 h2]; exact h3⟩
theorem cov_congr {X Y : Int → Bool} : ∀ {n : Nat} {c : Cv}, CvOK c → c.d + n = 12 → (∀ id, loC c ≤ id → id < hiC c → X id = Y id) → cov X n c = cov Y n c
  | 0, c, h, _, he => by simp only [cov]; rw [hasX_congr h he]
  | n + 1, c, h, hd, he => by
    obtain ⟨r1, r2, r3, r4, r5⟩ := ch_range h (by omega)
    simp only [cov]
    rw [hasX_congr h he, cov_congr (ch_ok h (by omega) 0 (by decide)) (by show c.d + 1 + (n : Int) = 12; omega) fun id h1 h2 => he id (by omega) (by omega),
      cov_congr (ch_ok h (by omega) 1 (by decide)) (by show c.d + 1 + (n : Int) = 12; omega) fun id h1 h2 => he id (by omega) (by omega)]
/-- Elements of what is left lie within, in order. -/
theorem cov_in {X : Int → Bool} : ∀ {n : Nat} {c : Cv}, CvOK c → c.d + n = 12 → ∀ e, e ∈ cov X n c → CvOK e ∧ loC c ≤ loC e ∧ hiC e ≤ hiC c
  | 0, c, h, _, e, he => by
    simp only [cov] at he
    split at he
    · cases he
    · obtain rfl := List.mem_singleton.1 he; exact ⟨h, by omega, by omega⟩
  | n + 1, c, h, hd, e, he => by
    obtain ⟨r1, r2, r3, r4, r5⟩ := ch_range h (by omega)
    simp only [cov] at he
    split at he
    · rcases List.mem_append.1 he with he | he
      · obtain ⟨g1, g2, g3⟩ := cov_in (ch_ok h (by omega) 0 (by decide)) (by show c.d + 1 + (n : Int) = 12; omega) e he
        exact ⟨g1, by omega, by omega⟩
      · obtain ⟨g1, g2, g3⟩ := cov_in (ch_ok h (by omega) 1 (by decide)) (by show c.d + 1 + (n : Int) = 12; omega) e he
        exact ⟨g1, by omega, by omega⟩
    · obtain rfl := List.mem_singleton.1 he; exact ⟨h, by omega, by omega⟩
theorem cov_pw {X : Int → Bool} : ∀ {n : Nat} {c : Cv}, CvOK c → c.d + n = 12 → (cov X n c).Pairwise fun a b => hiC a ≤ loC b
  | 0, c, _, _ => by simp only [cov]; split <;> simp
  | n + 1, c, h, hd => by
    obtain ⟨r1, r2, r3, r4, r5⟩ := ch_range h (by omega)
    simp only [cov]
    split
    · refine List.pairwise_append.2 ⟨cov_pw (ch_ok h (by omega) 0 (by decide)) (by show c.d + 1 + (n : Int) = 12; omega), cov_pw (ch_ok h (by omega) 1 (by decide)) (by show c.d + 1 + (n : Int) = 12; omega), fun a ha b hb => ?_⟩
      have g1 := (cov_in (ch_ok h (by omega) 0 (by decide)) (by show c.d + 1 + (n : Int) = 12; omega) a ha).2.2
      have g2 := (cov_in (ch_ok h (by omega) 1 (by decide)) (by show c.d + 1 + (n : Int) = 12; omega) b hb).2.1
      omega
    · simp
theorem VL_of {l : List Cv} (h1 : ∀ e, e ∈ l → CvOK e) (h2 : l.Pairwise fun a b => hiC a ≤ loC b) : VL l := by
  have hg : ∀ i, i < l.length → ∃ h : i < l.length, cAt l i = l[i] := fun i hi => ⟨hi, by unfold cAt; rw [List.getD_eq_getElem?_getD, List.getElem?_eq_getElem hi]; rfl⟩
  refine ⟨fun i hi => ?_, fun i j hij hj => ?_⟩
  · obtain ⟨_, e⟩ := hg i hi; rw [e]; exact h1 _ (List.getElem_mem _)
  · obtain ⟨_, e⟩ := hg i (by omega); obtain ⟨_, e'⟩ := hg j hj
    rw [e, e']; exact List.pairwise_iff_getElem.1 h2 i j _ _ hij
/-- Which chunks an element of what is left stands for. -/
theorem cov_has {X : Int → Bool} : ∀ {n : Nat} {c : Cv}, CvOK c → c.d + n = 12 → ∀ {id : Int}, loC c ≤ id → id < hiC c → ((∃ e, e ∈ cov X n c ∧ stB e id = true) ↔ X id = false)
  | 0, c, h, hd, id, h1, h2 => by
    have hx := hasX_iff (X := X) h
    have hs : szI c.d = 1 := by rw [show c.d = ((12 : Nat) : Int) by omega]; decide
    have e4 := hi_lo c
    have e : id = loC c := by omega
    subst e
    simp only [cov]
    cases hX : X (loC c) with
    | true =>
      rw [if_pos (hx.2 ⟨_, h1, h2, hX⟩)]
      exact ⟨fun ⟨e, he, _⟩ => (by cases he), fun h => by cases h⟩
    | false =>
      rw [if_neg fun h' => by obtain ⟨id, g1, g2, g3⟩ := hx.1 h'; rw [show id = loC c by omega, hX] at g3; cases g3]
      exact ⟨fun _ => rfl, fun _ => ⟨c, List.mem_singleton.2 rfl, (st_range h).2 ⟨h1, h2⟩⟩⟩
  | n + 1, c, h, hd, id, h1, h2 => by
    obtain ⟨r1, r2, r3, r4, r5⟩ := ch_range h (by omega)
    have o0 := ch_ok h (by omega) 0 (by decide)
    have o1 := ch_ok h (by omega) 1 (by decide)
    have d0 : (chC c 0).d + (n : Int) = 12 := by show c.d + 1 + (n : Int) = 12; omega
    have d1 : (chC c 1).d + (n : Int) = 12 := by show c.d + 1 + (n : Int) = 12; omega
    simp only [cov]
    split
    · by_cases hc : loC (chC c 1) ≤ id
      · rw [← cov_has o1 d1 hc (by omega)]
        constructor
        · rintro ⟨e, he, hst⟩
          rcases List.mem_append.1 he with he | he
          · obtain ⟨g1, g2, g3⟩ := cov_in o0 d0 e he
            have := (st_range g1).1 hst
            omega
          · exact ⟨e, he, hst⟩
        · rintro ⟨e, he, hst⟩; exact ⟨e, List.mem_append.2 (.inr he), hst⟩
      · rw [← cov_has o0 d0 (by omega) (by omega)]
        constructor
        · rintro ⟨e, he, hst⟩
          rcases List.mem_append.1 he with he | he
          · exact ⟨e, he, hst⟩
          · obtain ⟨g1, g2, g3⟩ := cov_in o1 d1 e he
            have := (st_range g1).1 hst
            omega
        · rintro ⟨e, he, hst⟩; exact ⟨e, List.mem_append.2 (.inl he), hst⟩
    · rename_i hx
      have hX : X id = false := Bool.eq_false_iff.2 fun hh => hx ((hasX_iff h).2 ⟨id, h1, h2, hh⟩)
      exact ⟨fun _ => hX, fun _ => ⟨c, List.mem_singleton.2 rfl, (st_range h).2 ⟨h1, h2⟩⟩⟩
/-- One chunk is destroyed below an element of which none was. -/
theorem cov_one {Y : Int → Bool} {id : Int} (hY : ∀ j, Y j = true ↔ j = id) : ∀ {n : Nat} {c : Cv}, CvOK c → c.d + n = 12 → loC c ≤ id → id < hiC c → cov Y n c = befL n c id ++ aftL n c id
  | 0, c, h, hd, h1, h2 => by
    simp only [cov, befL, aftL]
    rw [if_pos ((hasX_iff h).2 ⟨id, h1, h2, (hY id).2 rfl⟩)]; rfl
  | n + 1, c, h, hd, h1, h2 => by
    obtain ⟨r1, r2, r3, r4, r5⟩ := ch_range h (by omega)
    have o0 := ch_ok h (by omega) 0 (by decide)
    have o1 := ch_ok h (by omega) 1 (by decide)
    have d0 : (chC c 0).d + (n : Int) = 12 := by show c.d + 1 + (n : Int) = 12; omega
    have d1 : (chC c 1).d + (n : Int) = 12 := by show c.d + 1 + (n : Int) = 12; omega
    have no : ∀ e, CvOK e → ¬ (loC e ≤ id ∧ id < hiC e) → hasX Y e = false := fun e he hn => Bool.eq_false_iff.2 fun hh => by
      obtain ⟨j, g1, g2, g3⟩ := (hasX_iff he).1 hh
      obtain rfl := (hY j).1 g3
      exact hn ⟨g1, g2⟩
    simp only [cov, befL, aftL]
    rw [if_pos ((hasX_iff h).2 ⟨id, h1, h2, (hY id).2 rfl⟩)]
    rcases step_is h (by omega) h1 h2 with ⟨s1, s2, s3, s4⟩ | ⟨s1, s2, s3, s4⟩
    · rw [s1, s2, s3, cov_none (no _ o1 (by omega)), cov_one hY o0 d0 (by omega) (by omega)]
      simp
    · rw [s1, s2, s3, cov_none (no _ o0 (by omega)), cov_one hY o1 d1 (by omega) (by omega)]
      simp
theorem desF_none {l : List Cv} {id : Int} (h : ∀ e, e ∈ l → stB e id = false) : desF l id = l := by
  unfold desF
  induction l with
  | nil => rfl
  | cons x r ih =>
    rw [List.flatMap_cons, h x List.mem_cons_self, ih fun e he => h e (List.mem_cons_of_mem _ he)]
    simp
theorem desF_append (l q : List Cv) (id : Int) : desF (l ++ q) id = desF l id ++ desF q id := by unfold desF; rw [List.flatMap_append]
theorem cov_des {X : Int → Bool} {id : Int} : ∀ {n : Nat} {c : Cv}, CvOK c → c.d + n = 12 → loC c ≤ id → id < hiC c → desF (cov X n c) id = cov (fun j => X j || decide (j = id)) n c
  | n, c, h, hd, h1, h2 => by
    cases hx : hasX X c with
    | false =>
      rw [cov_none hx]
      have e : cov (fun j => X j || decide (j = id)) n c = cov (fun j => decide (j = id)) n c := cov_congr h hd fun j g1 g2 => by
        have : X j = false := Bool.eq_false_iff.2 fun hh => by rw [(hasX_iff h).2 ⟨j, g1, g2, hh⟩] at hx; cases hx
        simp [this]
      rw [e, cov_one (id := id) (by simp) h hd h1 h2]
      have hn : 12 - c.d.toNat = n := by have := h.1; omega
      unfold desF
      rw [List.flatMap_cons, (st_range h).2 ⟨h1, h2⟩, hn]
      simp
    | true =>
      have hx' : hasX (fun j => X j || decide (j = id)) c = true := (hasX_iff h).2 ⟨id, h1, h2, by simp⟩
      match n with
      | 0 => simp only [cov]; rw [if_pos hx, if_pos hx']; rfl
      | n + 1 =>
        obtain ⟨r1, r2, r3, r4, r5⟩ := ch_range h (by omega)
        have o0 := ch_ok h (by omega) 0 (by decide)
        have o1 := ch_ok h (by omega) 1 (by decide)
        have d0 : (chC c 0).d + (n : Int) = 12 := by show c.d + 1 + (n : Int) = 12; omega
        have d1 : (chC c 1).d + (n : Int) = 12 := by show c.d + 1 + (n : Int) = 12; omega
        simp only [cov]
        rw [if_pos hx, if_pos hx', desF_append]
        by_cases hc : loC (chC c 1) ≤ id
        · rw [cov_des o1 d1 hc (by omega), desF_none fun e he => ?_]
          · rw [cov_congr o0 d0 fun j g1 g2 => (by simp; omega : X j = (X j || decide (j = id)))]
          · obtain ⟨g1, g2, g3⟩ := cov_in o0 d0 e he
            refine Bool.eq_false_iff.2 fun hh => ?_
            have := (st_range g1).1 hh
            omega
        · rw [cov_des o0 d0 (by omega) (by omega), desF_none fun e he => ?_]
          · rw [cov_congr o1 d1 fun j g1 g2 => (by simp; omega : X j = (X j || decide (j = id)))]
          · obtain ⟨g1, g2, g3⟩ := cov_in o1 d1 e he
            refine Bool.eq_false_iff.2 fun hh => ?_
            have := (st_range g1).1 hh
            omega
theorem wayC_front (c : Cv) (id : Int) : ∀ j, wayC c id (j + 1) = wayC (stepC c id) id j
  | 0 => rfl
  | j + 1 => by show stepC (wayC c id (j + 1)) id = stepC (wayC (stepC c id) id j) id; rw [wayC_front c id j]
theorem leaf_step {c : Cv} (h : CvOK c) (hd : c.d < 12) (id : Int) : leafC (stepC c id) id = leafC c id := by
  unfold leafC
  have e : (stepC c id).d = c.d + 1 := rfl
  rw [e, show 12 - c.d.toNat = (12 - (c.d + 1).toNat) + 1 by have := h.1; omega, wayC_front]
/-- The key of a chunk is that of the whole tree. -/
theorem cov_leaf {X : Int → Bool} {id : Int} : ∀ {n : Nat} {c : Cv}, CvOK c → c.d + n = 12 → ∀ {e}, e ∈ cov X n c → stB e id = true → leafC e id = leafC c id
  | 0, c, h, hd, e, he, hst => by
    simp only [cov] at he
    split at he
    · cases he
    · rw [List.mem_singleton.1 he]
  | n + 1, c, h, hd, e, he, hst => by
    obtain ⟨r1, r2, r3, r4, r5⟩ := ch_range h (by omega)
    have o0 := ch_ok h (by omega) 0 (by decide)
    have o1 := ch_ok h (by omega) 1 (by decide)
    have d0 : (chC c 0).d + (n : Int) = 12 := by show c.d + 1 + (n : Int) = 12; omega
    have d1 : (chC c 1).d + (n : Int) = 12 := by show c.d + 1 + (n : Int) = 12; omega
    simp only [cov] at he
    split at he
    · rcases List.mem_append.1 he with he | he
      · obtain ⟨g1, g2, g3⟩ := cov_in o0 d0 e he
        have g4 := (st_range g1).1 hst
        rw [cov_leaf o0 d0 he hst, ← leaf_step h (by omega) id]
        rcases step_is h (by omega) (id := id) (by omega) (by omega) with ⟨s1, s2, s3, s4⟩ | ⟨s1, s2, s3, s4⟩
        · rw [s2]
        · omega
      · obtain ⟨g1, g2, g3⟩ := cov_in o1 d1 e he
        have g4 := (st_range g1).1 hst
        rw [cov_leaf o1 d1 he hst, ← leaf_step h (by omega) id]
        rcases step_is h (by omega) (id := id) (by omega) (by omega) with ⟨s1, s2, s3, s4⟩ | ⟨s1, s2, s3, s4⟩
        · omega
        · rw [s2]
    · rw [List.mem_singleton.1 he]
/-- The keys of a seed of which some chunks are destroyed. -/
def rootC (s : Nat → Nat) : Cv := ⟨0, 0, s⟩
def inX (D : List Int) (id : Int) : Bool := decide (id ∈ D)
def KV (s : Nat → Nat) (D : List Int) : List Cv := cov (inX D) 12 (rootC s)
def SmF (s : Nat → Nat) : Prop := ∀ i, i < 32 → s i < 256
theorem root_d (s : Nat → Nat) : (rootC s).d + ((12 : Nat) : Int) = 12 := rfl
theorem root_ok {s : Nat → Nat} (hs : SmF s) : CvOK (rootC s) := ⟨Int.le_refl 0, show (0 : Int) ≤ 12 by decide, Int.le_refl 0, show (0 : Int) < 2 ^ (0 : Int).toNat by decide, hs⟩
theorem root_lo (s : Nat → Nat) : loC (rootC s) = 0 := by unfold loC rootC; simp
theorem root_hi (s : Nat → Nat) : hiC (rootC s) = 4096 := by show ((0 : Int) + 1) * szI 0 = 4096; decide
theorem KV_nil (s : Nat → Nat) : KV s [] = [rootC s] := cov_none (by unfold hasX inX; simp) 12
section
variable {s : Nat → Nat} (hs : SmF s) (D : List Int)
include hs
theorem KV_ok : VL (KV s D) := VL_of (fun e he => (cov_in (root_ok hs) (root_d s) e he).1) (cov_pw (root_ok hs) (root_d s))
theorem KV_has (id : Int) : hasB (KV s D) id = (inR id && !inX D id) := by
  rw [Bool.eq_iff_iff, has_iff (KV_ok hs D)]
  have e : (∃ i, i < (KV s D).length ∧ stB (cAt (KV s D) i) id = true) ↔ ∃ e, e ∈ KV s D ∧ stB e id = true := by
    constructor
    · rintro ⟨i, hi, h⟩
      refine ⟨_, ?_, h⟩
      unfold cAt; rw [List.getD_eq_getElem?_getD, List.getElem?_eq_getElem hi]; exact List.getElem_mem hi
    · rintro ⟨e, he, h⟩
      obtain ⟨i, hi, rfl⟩ := List.getElem_of_mem he
      exact ⟨i, hi, by unfold cAt; rw [List.getD_eq_getElem?_getD, List.getElem?_eq_getElem hi]; exact h⟩
  rw [e]
  by_cases hr : inR id = true
  · have hr' : 0 ≤ id ∧ id < 4096 := by simpa [inR] using hr
    have := cov_has (X := inX D) (root_ok hs) (n := 12) (root_d s) (id := id) (by rw [root_lo s]; exact hr'.1) (by rw [root_hi s]; exact hr'.2)
    unfold KV
    rw [this, hr]; simp
  · constructor
    · rintro ⟨e, he, h⟩
      exact absurd ((st_iff (cov_in (root_ok hs) (root_d s) e he).1).1 h).1 hr
    · intro h; rw [Bool.and_eq_true] at h; exact absurd h.1 hr
theorem KV_des {id : Int} (h : inR id = true) : desF (KV s D) id = KV s (id :: D) := by
  have hr' : 0 ≤ id ∧ id < 4096 := by simpa [inR] using h
  unfold KV
  rw [cov_des (root_ok hs) (root_d s) (by rw [root_lo s]; exact hr'.1) (by rw [root_hi s]; exact hr'.2)]
  refine cov_congr (root_ok hs) (root_d s) fun j _ _ => ?_
  simp only [inX, List.mem_cons]
  by_cases e : j = id <;> simp [e]
theorem KV_congr {E : List Int} (h : ∀ id, 0 ≤ id → id < 4096 → (id ∈ D ↔ id ∈ E)) : KV s D = KV s E := by
  refine cov_congr (root_ok hs) (root_d s) fun j h1 h2 => ?_
  rw [root_lo s] at h1; rw [root_hi s] at h2
  unfold inX
  exact decide_eq_decide.2 (h j h1 h2)
theorem KV_key {id : Int} (h : hasB (KV s D) id = true) : keyN (KV s D) id = (leafC (rootC s) id).k := by
  obtain ⟨i, hi, h2⟩ := (has_iff (KV_ok hs D)).1 h
  unfold keyN
  rw [(at_hit (KV_ok hs D) hi h2).2, cov_leaf (X := inX D) (root_ok hs) (n := 12) (root_d s) ?_ h2]
  unfold cAt; rw [List.getD_eq_getElem?_getD, List.getElem?_eq_getElem hi]; exact List.getElem_mem hi
theorem KV_keyR (id : Int) : keyR (KV s D) id = if inR id && !inX D id then (leafC (rootC s) id).k else kz := by
  unfold keyR
  rw [← KV_has hs D id]
  split
  · rename_i h; exact KV_key hs D h
  · rfl
theorem KV_len : (KV s D).length ≤ 4096 := by
  have hv := KV_ok hs D
  have key : ∀ i, i ≤ (KV s D).length → (i : Int) ≤ leftI ((KV s D).take i) := by
    intro i
    induction i with
    | zero => intro _; simp [leftI]
    | succ i ih =>
      intro hi
      have := ih (by omega)
      have h1 := (cv_facts (hv.1 i (by omega))).2.2.1
      rw [left_succ (by omega)]
      omega
  have h1 := key _ (Nat.le_refl _)
  obtain ⟨_, h2, h3⟩ := left_le hv _ (Nat.le_refl _)
  omega
end
end Go.Bu.W

