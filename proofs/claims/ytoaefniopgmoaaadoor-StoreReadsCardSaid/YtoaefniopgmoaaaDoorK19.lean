/- Results and cells compared. -/
import Derived.Test.YtoaefniopgmoaaaDoorK18
namespace Go.Bu.W
open Sp
def strB (a b : List Nat) : Bool := ByteArray.toList (bytesOf a.length (rowL a)) == ByteArray.toList (bytesOf b.length (rowL b))
def sameC (c e : Cl) : Bool := (c.i == e.i) && ((c.s == e.s) && (strB c.b e.b && (List.range 32).all fun k => ((c.h k : Nat) : Int) == ((e.h k : Nat) : Int)))
def crSGot : List AV → Option (AV × List (Nat × Blk))
  | [.st [.dat n _ _ f, x], .st [.dat m _ _ g, y]] => some (.sb (strB (bytesL n f) (bytesL m g) && (asI x == asI y)), [])
  | _ => none
def crSCell : List AV → Option (AV × List (Nat × Blk))
  | [x, y] => some (.sb (sameC (toCl x) (toCl y)), [])
  | _ => none
def crS9 (g : Nat) (args : List AV) (H : List (Nat × Blk)) : Option (AV × List (Nat × Blk)) :=
  sel (Nat.beq g F_sgot) (crSGot args) <| sel (Nat.beq g F_rscell) (crSCell args) <| crS8 g args H
def wayK (keep : List Nat) (nt : Nat) (cuts : List Nat) : Way := ⟨crS9, fun _ => false, keep, [], nt, cuts, []⟩
def w_sgot : Way := wayK [0, 1, 2, 3, 4] 19 []
abbrev gA (a : List Nat) (e : Int) : AV := .st [.dat a.length false 1 (rowL a), .i e]
theorem sgot_A (a b : List Nat) (x y : Int) {D : Dom} (K : Nat) (Φ : Ex → St → Prop) :
 (Holds C P 19 D K Φ (vc C w_sgot b_sgot [] (start [gA a x, gA b y] []) lf)) =
 ((∀ (i : Nat), ((i < (List.length a)) → (((0 : Int) ≤ (((List.getD a i 0) : Nat) : Int)) ∧ ((((List.getD a i 0) : Nat) : Int) < (256 : Int))))) ∧
 ((∀ (i : Nat), ((i < (List.length b)) → (((0 : Int) ≤ (((List.getD b i 0) : Nat) : Int)) ∧ ((((List.getD b i 0) : Nat) : Int) < (256 : Int))))) ∧
 ((((ByteArray.toList (bytesOf (List.length a) (rowL a))) == (ByteArray.toList (bytesOf (List.length b) (rowL b)))) = true →
 (Φ Ex.ret (St.mk [(0, (AV.st [(AV.dat (List.length a) false 1 (rowL a)), (AV.i x)])), (1, (AV.st [(AV.dat (List.length b) false 1 (rowL b)), (AV.i y)])), (2, (AV.ptr 2 [])), (3, (AV.ptr 3 [])), (4, (AV.sb (x == y)))] [(2, (Blk.c (AV.st [(AV.dat (List.length a) false 1 (rowL a)), (AV.i x)]))), (3, (Blk.c (AV.st [(AV.dat (List.length b) false 1 (rowL b)), (AV.i y)])))] [3, 2]))) ∧
 (((ByteArray.toList (bytesOf (List.length a) (rowL a))) == (ByteArray.toList (bytesOf (List.length b) (rowL b)))) = false →
 (Φ Ex.ret (St.mk [(0, (AV.st [(AV.dat (List.length a) false 1 (rowL a)), (AV.i x)])), (1, (AV.st [(AV.dat (List.length b) false 1 (rowL b)), (AV.i y)])), (2, (AV.ptr 2 [])), (3, (AV.ptr 3 [])), (4, (AV.v (Value.bool false)))] [(2, (Blk.c (AV.st [(AV.dat (List.length a) false 1 (rowL a)), (AV.i x)]))), (3, (Blk.c (AV.st [(AV.dat (List.length b) false 1 (rowL b)), (AV.i y)])))] [3, 2])))))) := by kernel_rfl
theorem strB_refl (a : List Nat) : strB a a = true := beq_self_eq_true _
theorem small_row {a : List Nat} (h : Small a) : ∀ i, i < a.length → (0 : Int) ≤ ((a.getD i 0 : Nat) : Int) ∧ ((a.getD i 0 : Nat) : Int) < 256 := fun i _ => by
  have := getD_small h i
  omega
theorem sgot_fun (a b : List Nat) (x y : Int) (ha : Small a) (hb : Small b) : Fun C P F_sgot [gA a x, gA b y] [] (.sb (strB a b && (x == y))) [] := by
  refine in_sgot (W := w_sgot) rfl 0 (by simp) rfl (fun id h => absurd rfl h) fun D => ?_
  refine of_eq (sgot_A a b x y 0 _) ⟨small_row ha, small_row hb, fun h => ?_, fun h => ?_⟩
  · rw [show strB a b = true from h, Bool.true_and]
    exact post_tmp rfl (sm_same rfl)
  · rw [show strB a b = false from h, Bool.false_and]
    exact post_tmp rfl (sm_b rfl)
end Go.Bu.W
namespace Go.Bu.W
open Sp
def sameCs (l q : List Cl) : Bool := decide (l.length = q.length) && (List.range l.length).all fun i => sameC (clAt l i) (clAt q i)
def crSCells : List AV → Option (AV × List (Nat × Blk))
  | [x, y] => some (.sb (sameCs (toCls x) (toCls y)), [])
  | _ => none
def crSA (g : Nat) (args : List AV) (H : List (Nat × Blk)) : Option (AV × List (Nat × Blk)) :=
  sel (Nat.beq g F_rscells) (crSCells args) <| crS9 g args H
def SmCs (l : List Cl) : Prop := ∀ c, c ∈ l → Small c.b
theorem SmCs.at {l : List Cl} (h : SmCs l) {i : Nat} (hi : i < l.length) : Small (clAt l i).b := h _ (by rw [clAt_lt hi]; exact List.getElem_mem hi)
end Go.Bu.W
namespace Go.Bu.W
open Sp
def sameJ (a b : Jb) : Bool := (a.dr == b.dr) && sameC a.c b.c
def sameD (d e : Dk) : Bool := sameCs d.l e.l && (decide (d.q.length = e.q.length) && (List.range d.q.length).all fun i => sameJ (jbAt d.q i) (jbAt e.q i))
def crSame : List AV → Option (AV × List (Nat × Blk))
  | [x, y] => some (.sb (sameD (toDk x) (toDk y)), [])
  | _ => none
def crSB (g : Nat) (args : List AV) (H : List (Nat × Blk)) : Option (AV × List (Nat × Blk)) :=
  sel (Nat.beq g F_rsame) (crSame args) <| crSA g args H
structure SmD (d : Dk) : Prop where
  l : SmCs d.l
  q : ∀ j, j ∈ d.q → Small j.c.b
theorem SmD.at {d : Dk} (h : SmD d) {i : Nat} (hi : i < d.q.length) : Small (jbAt d.q i).c.b := by
  refine h.q _ ?_
  unfold jbAt
  rw [List.getD_eq_getElem?_getD, List.getElem?_eq_getElem hi]
  exact List.getElem_mem hi
end Go.Bu.W
namespace Go.Bu.W
open Sp
def crBad : List AV → Option (AV × List (Nat × Blk))
  | [x] => some (csA false (badL (cont (toDk x))), [])
  | _ => none
def crSC (g : Nat) (args : List AV) (H : List (Nat × Blk)) : Option (AV × List (Nat × Blk)) :=
  sel (Nat.beq g F_rbad) (crBad args) <| crSB g args H
end Go.Bu.W
namespace Go.Bu.W
open Sp
abbrev nuA (c : Cl) : AV := .arr 2 1 (fun k => .i (num2 c k))
abbrev nlA (ex : Bool) (l : List Cl) : AV := .dat l.length ex 2 (fun i => nuA (clAt l i))
def crList : List AV → Option (AV × List (Nat × Blk))
  | [x] => some (nlA false (cont (toDk x)), [])
  | _ => none
def crSD (g : Nat) (args : List AV) (H : List (Nat × Blk)) : Option (AV × List (Nat × Blk)) :=
  sel (Nat.beq g F_rlist) (crList args) <| crSC g args H
def wayO (keep : List Nat) (nt : Nat) (cuts : List Nat) : Way := ⟨crSD, fun _ => false, keep, [], nt, cuts, []⟩
abbrev anC (l : List Cl) (i : Nat) : AV := .arr i 2 (fun k => nuA (clAt l k))
end Go.Bu.W
namespace Go.Bu.W
open Sp
def I_rsl (ex ey : Bool) (l q : List Cl) (i : Nat) : St := { tm := [(0, nlA ex l), (1, nlA ey q), (5, .i i)], hp := [], seen := [] }
def w_rslist : Way := wayO [0, 1, 4, 5, 10, 14, 25] 26 []
theorem rslist_A (ex ey : Bool) (l q : List Cl) {D : Dom} (K : Nat) (Φ : Ex → St → Prop) :
 (Holds C P 26 D K Φ (vc C w_rslist b_rslist [] (start [nlA ex l, nlA ey q] []) lf)) =
 ((((((List.length l) : Nat) : Int) != (((List.length q) : Nat) : Int)) = true →
 (Φ Ex.ret (St.mk [(0, (AV.dat (List.length l) ex 2 (fun (i : Nat) => (AV.arr 2 1 (fun (k : Nat) => (AV.i (num2 (clAt l i) k))))))), (1, (AV.dat (List.length q) ey 2 (fun (i : Nat) => (AV.arr 2 1 (fun (k : Nat) => (AV.i (num2 (clAt q i) k))))))), (4, (AV.v (Value.bool false))), (10, (AV.v (Value.bool true)))] [] []))) ∧
 (((((List.length l) : Nat) : Int) != (((List.length q) : Nat) : Int)) = false →
 (LoopOK C P 26 D K (bodyAt b_rslist [1, 1, 0, 1, 0]) (St.mk [(0, (AV.dat (List.length l) ex 2 (fun (i : Nat) => (AV.arr 2 1 (fun (k : Nat) => (AV.i (num2 (clAt l i) k))))))), (1, (AV.dat (List.length q) ey 2 (fun (i : Nat) => (AV.arr 2 1 (fun (k : Nat) => (AV.i (num2 (clAt q i) k))))))), (4, (AV.v (Value.bool false))), (5, (AV.i (0 : Int))), (10, (AV.v (Value.bool false)))] [] []) (fun (e : Ex) (S' : St) => Holds C P 26 D K Φ (after C w_rslist b_rslist [1, 1, 0, 1, 0] [] lf e S'))))) := by kernel_rfl
noncomputable abbrev bd_rslist_0 : Code := bodyAt (b_rslist) [1, 1, 0, 1, 0]
theorem ok_rslist_0 : codeOK bd_rslist_0 = true := by kernel_rfl
noncomputable abbrev rest_rslist_0 (D : Dom) (K : Nat) (Φ : Ex → St → Prop) : Ex → St → Prop := fun e S' => Holds C P 26 D K Φ (after C w_rslist (b_rslist) [1, 1, 0, 1, 0] [] lf e S')
theorem rslist_L0 (ex ey : Bool) (l q : List Cl) (i : Nat) {D : Dom} (K : Nat) (Φ : Ex → St → Prop) :
 (Holds C P 26 D K (RoundQ C 26 D K (I_rsl ex ey l q) (fun i => i ≤ l.length) (fun i => l.length - i) ((fun i => l.length - i) (i)) (rest_rslist_0 D K Φ)) (vc C w_rslist bd_rslist_0 [] ((I_rsl ex ey l q) (i)) lf)) =
 (((decide (((i : Nat) : Int) < (((List.length l) : Nat) : Int))) = true →
 ((((0 : Int) ≤ ((i : Nat) : Int)) ∧ (((i : Nat) : Int) < (((List.length l) : Nat) : Int))) ∧
 ((((0 : Int) ≤ ((i : Nat) : Int)) ∧ (((i : Nat) : Int) < (((List.length q) : Nat) : Int))) ∧
 ((∀ (i1 : Nat), ((i1 < 2) → ((IntKind.i64 = IntKind.i64) ∧ (IntKind.i64 = IntKind.i64)))) ∧
 (((! (List.all (List.range 2) (fun (i1 : Nat) => ((num2 (clAt l i) i1) == (num2 (clAt q i) i1))))) = true →
 (Φ Ex.ret (St.mk [(0, (AV.dat (List.length l) ex 2 (fun (i1 : Nat) => (AV.arr 2 1 (fun (k : Nat) => (AV.i (num2 (clAt l i1) k))))))), (1, (AV.dat (List.length q) ey 2 (fun (i1 : Nat) => (AV.arr 2 1 (fun (k : Nat) => (AV.i (num2 (clAt q i1) k))))))), (4, (AV.v (Value.bool false))), (5, (AV.i ((i : Nat) : Int))), (14, (AV.v (Value.bool true))), (25, (AV.v (Value.bool true)))] [] []))) ∧
 ((! (List.all (List.range 2) (fun (i1 : Nat) => ((num2 (clAt l i) i1) == (num2 (clAt q i) i1))))) = false →
 ((I64 (((i + 1) : Nat) : Int)) ∧
 ((RoundQ C 26 D K (I_rsl ex ey l q) (fun i => i ≤ l.length) (fun i => l.length - i) ((fun i => l.length - i) (i)) (rest_rslist_0 D K Φ)) Ex.normal (St.mk [(0, (AV.dat (List.length l) ex 2 (fun (i1 : Nat) => (AV.arr 2 1 (fun (k : Nat) => (AV.i (num2 (clAt l i1) k))))))), (1, (AV.dat (List.length q) ey 2 (fun (i1 : Nat) => (AV.arr 2 1 (fun (k : Nat) => (AV.i (num2 (clAt q i1) k))))))), (5, (AV.i (((i + 1) : Nat) : Int))), (14, (AV.v (Value.bool true))), (25, (AV.v (Value.bool false)))] [] []))))))))) ∧
 ((decide (((i : Nat) : Int) < (((List.length l) : Nat) : Int))) = false →
 (Φ Ex.ret (St.mk [(0, (AV.dat (List.length l) ex 2 (fun (i1 : Nat) => (AV.arr 2 1 (fun (k : Nat) => (AV.i (num2 (clAt l i1) k))))))), (1, (AV.dat (List.length q) ey 2 (fun (i1 : Nat) => (AV.arr 2 1 (fun (k : Nat) => (AV.i (num2 (clAt q i1) k))))))), (4, (AV.v (Value.bool true))), (5, (AV.i ((i : Nat) : Int))), (14, (AV.v (Value.bool false)))] [] [])))) := by kernel_rfl
theorem rslist_fun (ex ey : Bool) (l : List Cl) (hn : l.length < 2 ^ 60) : Fun C P F_rslist [nlA ex l, nlA ey l] [] (.sb true) [] := by
  refine in_rslist (W := w_rslist) rfl 0 (by simp) rfl (fun id h => absurd rfl h) fun D => ?_
  refine of_eq (rslist_A ex ey l l 0 _) ⟨fun h => (by simp at h), fun _ => ?_⟩
  refine loop_inv (W := w_rslist) ctx mixed ok_rslist_0 (I_rsl ex ey l l) (fun i => i ≤ l.length) (fun i => l.length - i) 0 (Nat.zero_le _) ?_ fun i hi => ?_
  · exact ent_of [] rfl (tm_cons rfl (sm_same rfl) (tm_cons rfl (sm_same rfl) (tm_cons rfl (sm_same rfl) tm_nil))) hp_nil
  refine of_eq (rslist_L0 ex ey l l i 0 _) ⟨fun h => ?_, fun h => ?_⟩
  · simp only [decide_eq_true_eq] at h
    have hall : ((List.range 2).all fun k => num2 (clAt l i) k == num2 (clAt l i) k) = true := List.all_eq_true.2 fun k _ => by simp
    exact ⟨(by first | omega | decide | (unfold I64; omega)), (by first | omega | decide | (unfold I64; omega)), fun _ _ => ⟨rfl, rfl⟩, nf_then hall ⟨(by first | omega | decide | (unfold I64; omega)), round_end (i + 1) (by omega) (ent_of [] rfl (tm_cons rfl (sm_same rfl) (tm_cons rfl (sm_same rfl) (tm_cons rfl (sm_same rfl) tm_nil))) hp_nil) (by dsimp only; omega)⟩⟩
  · exact post_tmp rfl (sm_b rfl)
end Go.Bu.W

