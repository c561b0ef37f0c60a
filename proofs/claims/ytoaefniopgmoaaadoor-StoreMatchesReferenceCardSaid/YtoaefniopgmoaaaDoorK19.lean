/- Results and cells compared. -/
import Derived.Test.YtoaefniopgmoaaaDoorK18
namespace Go.Bu.W
open Sp
def strB (a b : List Nat) : Bool := ByteArray.toList (bytesOf a.length (rowL a)) == ByteArray.toList (bytesOf b.length (rowL b))
def sameC (c e : Cl) : Bool := (c.i == e.i) && ((c.s == e.s) && (strB c.b e.b && (List.range 32).all fun k => ((c.h k : Nat) : Int) == ((e.h k : Nat) : Int)))
def crSGot : List AV → Option (AV × List (Nat × Blk))
 | [.st [.dat n _ _ f, x], .st [.dat m _ _ g, y]] => some (.sb (strB (bytesL n f) (bytesL m g) && (asI x == asI y)), [])
 | _ => none
def crSCell : List AV → Option (AV × List (Nat × Blk))
 | [x, y] => some (.sb (sameC (toCl x) (toCl y)), [])
 | _ => none
def crS9 (g : Nat) (args : List AV) (H : List (Nat × Blk)) : Option (AV × List (Nat × Blk)) :=
 sel (Nat.beq g F_sgot) (crSGot args) <| sel (Nat.beq g F_rscell) (crSCell args) <| crS8 g args H
def wayK (keep : List Nat) (nt : Nat) (cuts : List Nat) : Way := ⟨crS9, fun _ => false, keep, [], nt, cuts, []⟩
def w_sgot : Way := wayK [0, 1, 2, 3, 4] 19 []
def w_rscell : Way := wayK [0, 1, 2, 3, 4] 33 []
abbrev gA (a : List Nat) (e : Int) : AV := .st [.dat a.length false 1 (rowL a), .i e]
theorem sgot_A (a b : List Nat) (x y : Int) {D : Dom} (K : Nat) (Φ : Ex → St → Prop) :
 (Holds C P 19 D K Φ (vc C w_sgot b_sgot [] (start [gA a x, gA b y] []) lf)) =
 ((∀ (i : Nat), ((i < (List.length a)) → (((0 : Int) ≤ (((List.getD a i 0) : Nat) : Int)) ∧ ((((List.getD a i 0) : Nat) : Int) < (256 : Int))))) ∧
 ((∀ (i : Nat), ((i < (List.length b)) → (((0 : Int) ≤ (((List.getD b i 0) : Nat) : Int)) ∧ ((((List.getD b i 0) : Nat) : Int) < (256 : Int))))) ∧
 ((((ByteArray.toList (bytesOf (List.length a) (rowL a))) == (ByteArray.toList (bytesOf (List.length b) (rowL b)))) = true →
 (Φ Ex.ret (St.mk [(0, (AV.st [(AV.dat (List.length a) false 1 (rowL a)), (AV.i x)])), (1, (AV.st [(AV.dat (List.length b) false 1 (rowL b)), (AV.i y)])), (2, (AV.ptr 2 [])), (3, (AV.ptr 3 [])), (4, (AV.sb (x == y)))] [(2, (Blk.c (AV.st [(AV.dat (List.length a) false 1 (rowL a)), (AV.i x)]))), (3, (Blk.c (AV.st [(AV.dat (List.length b) false 1 (rowL b)), (AV.i y)])))] [3, 2]))) ∧
 (((ByteArray.toList (bytesOf (List.length a) (rowL a))) == (ByteArray.toList (bytesOf (List.length b) (rowL b)))) = false →
 (Φ Ex.ret (St.mk [(0, (AV.st [(AV.dat (List.length a) false 1 (rowL a)), (AV.i x)])), (1, (AV.st [(AV.dat (List.length b) false 1 (rowL b)), (AV.i y)])), (2, (AV.ptr 2 [])), (3, (AV.ptr 3 [])), (4, (AV.v (Value.bool false)))] [(2, (Blk.c (AV.st [(AV.dat (List.length a) false 1 (rowL a)), (AV.i x)]))), (3, (Blk.c (AV.st [(AV.dat (List.length b) false 1 (rowL b)), (AV.i y)])))] [3, 2])))))) := by kernel_rfl
theorem rscell_A (c e : Cl) {D : Dom} (K : Nat) (Φ : Ex → St → Prop) :
 (Holds C P 33 D K Φ (vc C w_rscell b_rscell [] (start [clA c, clA e] []) lf)) =
 ((((Cl.i c) == (Cl.i e)) = true →
 ((((Cl.s c) == (Cl.s e)) = true →
 ((∀ (i : Nat), ((i < (List.length (Cl.b c))) → (((0 : Int) ≤ (((List.getD (Cl.b c) i 0) : Nat) : Int)) ∧ ((((List.getD (Cl.b c) i 0) : Nat) : Int) < (256 : Int))))) ∧
 ((∀ (i : Nat), ((i < (List.length (Cl.b e))) → (((0 : Int) ≤ (((List.getD (Cl.b e) i 0) : Nat) : Int)) ∧ ((((List.getD (Cl.b e) i 0) : Nat) : Int) < (256 : Int))))) ∧
 ((((ByteArray.toList (bytesOf (List.length (Cl.b c)) (rowL (Cl.b c)))) == (ByteArray.toList (bytesOf (List.length (Cl.b e)) (rowL (Cl.b e))))) = true →
 ((∀ (i : Nat), ((i < 32) → ((IntKind.u8 = IntKind.u8) ∧ (IntKind.u8 = IntKind.u8)))) ∧
 (Φ Ex.ret (St.mk [(0, (clA c)), (1, (clA e)), (2, (AV.ptr 2 [])), (3, (AV.ptr 3 [])), (4, (AV.sb (List.all (List.range 32) (fun (i : Nat) => ((((Cl.h c i) : Nat) : Int) == (((Cl.h e i) : Nat) : Int))))))] [(2, (Blk.c (clA c))), (3, (Blk.c (clA e)))] [3, 2])))) ∧
 (((ByteArray.toList (bytesOf (List.length (Cl.b c)) (rowL (Cl.b c)))) == (ByteArray.toList (bytesOf (List.length (Cl.b e)) (rowL (Cl.b e))))) = false →
 (Φ Ex.ret (St.mk [(0, (clA c)), (1, (clA e)), (2, (AV.ptr 2 [])), (3, (AV.ptr 3 [])), (4, (AV.v (Value.bool false)))] [(2, (Blk.c (clA c))), (3, (Blk.c (clA e)))] [3, 2]))))))) ∧
 (((Cl.s c) == (Cl.s e)) = false →
 (Φ Ex.ret (St.mk [(0, (clA c)), (1, (clA e)), (2, (AV.ptr 2 [])), (3, (AV.ptr 3 [])), (4, (AV.v (Value.bool false)))] [(2, (Blk.c (clA c))), (3, (Blk.c (clA e)))] [3, 2]))))) ∧
 (((Cl.i c) == (Cl.i e)) = false →
 (Φ Ex.ret (St.mk [(0, (clA c)), (1, (clA e)), (2, (AV.ptr 2 [])), (3, (AV.ptr 3 [])), (4, (AV.v (Value.bool false)))] [(2, (Blk.c (clA c))), (3, (Blk.c (clA e)))] [3, 2])))) := by kernel_rfl
theorem strB_refl (a : List Nat) : strB a a = true := beq_self_eq_true _
theorem sameC_refl (c : Cl) : sameC c c = true := by
 unfold sameC
 rw [strB_refl, List.all_eq_true.2 fun i _ => by simp]
 simp
theorem small_row {a : List Nat} (h : Small a) : ∀ i, i < a.length → (0 : Int) ≤ ((a.getD i 0 : Nat) : Int) ∧ ((a.getD i 0 : Nat) : Int) < 256 := fun i _ => by
 have := getD_small h i
 omega
theorem sgot_fun (a b : List Nat) (x y : Int) (ha : Small a) (hb : Small b) : Fun C P F_sgot [gA a x, gA b y] [] (.sb (strB a b && (x == y))) [] := by
 refine in_sgot (W := w_sgot) rfl 0 (by simp) rfl (fun id h => absurd rfl h) fun D => ?_
 refine of_eq (sgot_A a b x y 0 _) ⟨small_row ha, small_row hb, fun h => ?_, fun h => ?_⟩
 ·rw [show strB a b = true from h, Bool.true_and]
  exact post_tmp rfl (sm_same rfl)
 ·rw [show strB a b = false from h, Bool.false_and]
  exact post_tmp rfl (sm_b rfl)
theorem rscell_fun (c e : Cl) (hc : Small c.b) (he : Small e.b) : Fun C P F_rscell [clA c, clA e] [] (.sb (sameC c e)) [] := by
 refine in_rscell (W := w_rscell) rfl 0 (by simp) rfl (fun id h => absurd rfl h) fun D => ?_
 refine of_eq (rscell_A c e 0 _) ?_
 unfold sameC
 refine ⟨fun h1 => ⟨fun h2 => ⟨small_row hc, small_row he, fun h3 => ⟨fun _ _ => ⟨rfl, rfl⟩, ?_⟩, fun h3 => ?_⟩, fun h2 => ?_⟩, fun h1 => ?_⟩
 ·rw [h1, h2, show strB c.b e.b = true from h3, Bool.true_and, Bool.true_and, Bool.true_and]
  exact post_tmp rfl (sm_same rfl)
 ·rw [h1, h2, show strB c.b e.b = false from h3, Bool.true_and, Bool.true_and, Bool.false_and]
  exact post_tmp rfl (sm_b rfl)
 ·rw [h1, h2, Bool.true_and, Bool.false_and]
  exact post_tmp rfl (sm_b rfl)
 ·rw [h1, Bool.false_and]
  exact post_tmp rfl (sm_b rfl)
end Go.Bu.W
namespace Go.Bu.W
open Sp
def sameCs (l q : List Cl) : Bool := decide (l.length = q.length) && (List.range l.length).all fun i => sameC (clAt l i) (clAt q i)
def crSCells : List AV → Option (AV × List (Nat × Blk))
 | [x, y] => some (.sb (sameCs (toCls x) (toCls y)), [])
 | _ => none
def crSA (g : Nat) (args : List AV) (H : List (Nat × Blk)) : Option (AV × List (Nat × Blk)) :=
 sel (Nat.beq g F_rscells) (crSCells args) <| crS9 g args H
def wayL (keep : List Nat) (nt : Nat) (cuts : List Nat) : Way := ⟨crSA, fun _ => false, keep, [], nt, cuts, []⟩
def w_rscells : Way := wayL [0, 1, 4, 5, 10, 14, 26] 27 []
def I_scs (ex ey : Bool) (l q : List Cl) (i : Nat) : St := { tm := [(0, csA ex l), (1, csA ey q), (5, .i i)], hp := [], seen := [] }
theorem rscells_A (ex ey : Bool) (l q : List Cl) {D : Dom} (K : Nat) (Φ : Ex → St → Prop) :
 (Holds C P 27 D K Φ (vc C w_rscells b_rscells [] (start [csA ex l, csA ey q] []) lf)) =
 ((((((List.length l) : Nat) : Int) != (((List.length q) : Nat) : Int)) = true →
 (Φ Ex.ret (St.mk [(0, (csA ex l)), (1, (csA ey q)), (4, (AV.v (Value.bool false))), (10, (AV.v (Value.bool true)))] [] []))) ∧
 (((((List.length l) : Nat) : Int) != (((List.length q) : Nat) : Int)) = false →
 (LoopOK C P 27 D K (bodyAt b_rscells [1, 1, 0, 1, 0]) (St.mk [(0, (csA ex l)), (1, (csA ey q)), (4, (AV.v (Value.bool false))), (5, (AV.i (0 : Int))), (10, (AV.v (Value.bool false)))] [] []) (fun (e : Ex) (S' : St) => Holds C P 27 D K Φ (after C w_rscells b_rscells [1, 1, 0, 1, 0] [] lf e S'))))) := by kernel_rfl
noncomputable abbrev bd_rscells_0 : Code := bodyAt (b_rscells) [1, 1, 0, 1, 0]
theorem ok_rscells_0 : codeOK bd_rscells_0 = true := by kernel_rfl
noncomputable abbrev rest_rscells_0 (D : Dom) (K : Nat) (Φ : Ex → St → Prop) : Ex → St → Prop := fun e S' => Holds C P 27 D K Φ (after C w_rscells (b_rscells) [1, 1, 0, 1, 0] [] lf e S')
theorem rscells_L0 (ex ey : Bool) (l q : List Cl) (i : Nat) {D : Dom} (K : Nat) (Φ : Ex → St → Prop) :
 (Holds C P 27 D K (RoundQ C 27 D K (I_scs ex ey l q) (fun i => i ≤ l.length ∧ ∀ k, k < i → sameC (clAt l k) (clAt q k) = true) (fun i => l.length - i) ((fun i => l.length - i) (i)) (rest_rscells_0 D K Φ)) (vc C w_rscells bd_rscells_0 [] ((I_scs ex ey l q) (i)) lf)) =
 (((decide (((i : Nat) : Int) < (((List.length l) : Nat) : Int))) = true →
 ((((0 : Int) ≤ ((i : Nat) : Int)) ∧ (((i : Nat) : Int) < (((List.length l) : Nat) : Int))) ∧
 ((((0 : Int) ≤ ((i : Nat) : Int)) ∧ (((i : Nat) : Int) < (((List.length q) : Nat) : Int))) ∧
 (Fun C P 52 [(clA (clAt l i)), (clA (clAt q i))] [] (AV.sb (sameC (toCl (clA (clAt l i))) (toCl (clA (clAt q i))))) [] ∧
 (True ∧
 (((! (sameC (toCl (clA (clAt l i))) (toCl (clA (clAt q i))))) = true →
 (Φ Ex.ret (St.mk [(0, (csA ex l)), (1, (csA ey q)), (4, (AV.v (Value.bool false))), (5, (AV.i ((i : Nat) : Int))), (14, (AV.v (Value.bool true))), (26, (AV.v (Value.bool true)))] [] []))) ∧
 ((! (sameC (toCl (clA (clAt l i))) (toCl (clA (clAt q i))))) = false →
 ((I64 (((i + 1) : Nat) : Int)) ∧
 ((RoundQ C 27 D K (I_scs ex ey l q) (fun i => i ≤ l.length ∧ ∀ k, k < i → sameC (clAt l k) (clAt q k) = true) (fun i => l.length - i) ((fun i => l.length - i) (i)) (rest_rscells_0 D K Φ)) Ex.normal (St.mk [(0, (csA ex l)), (1, (csA ey q)), (5, (AV.i (((i + 1) : Nat) : Int))), (14, (AV.v (Value.bool true))), (26, (AV.v (Value.bool false)))] [] [])))))))))) ∧
 ((decide (((i : Nat) : Int) < (((List.length l) : Nat) : Int))) = false →
 (Φ Ex.ret (St.mk [(0, (csA ex l)), (1, (csA ey q)), (4, (AV.v (Value.bool true))), (5, (AV.i ((i : Nat) : Int))), (14, (AV.v (Value.bool false)))] [] [])))) := by kernel_rfl
def SmCs (l : List Cl) : Prop := ∀ c, c ∈ l → Small c.b
theorem SmCs.at {l : List Cl} (h : SmCs l) {i : Nat} (hi : i < l.length) : Small (clAt l i).b := h _ (by rw [clAt_lt hi]; exact List.getElem_mem hi)
theorem sameCs_refl (l : List Cl) : sameCs l l = true := by
 unfold sameCs
 rw [decide_eq_true rfl, List.all_eq_true.2 fun i _ => sameC_refl _]; rfl
theorem rscells_fun (ex ey : Bool) (l q : List Cl) (h1 : SmCs l) (h2 : SmCs q) (hn : l.length < 2 ^ 60) : Fun C P F_rscells [csA ex l, csA ey q] [] (.sb (sameCs l q)) [] := by
 refine in_rscells (W := w_rscells) rfl 0 (by simp) rfl (fun id h => absurd rfl h) fun D => ?_
 refine of_eq (rscells_A ex ey l q 0 _) ⟨fun h => ?_, fun h => ?_⟩
 ·have hne : l.length ≠ q.length := fun e => by rw [e] at h; simp at h
  have e : sameCs l q = false := by unfold sameCs; rw [decide_eq_false hne]; rfl
  rw [e]
  exact post_tmp rfl (sm_b rfl)
 have hl : l.length = q.length := by
  have : ((l.length : Nat) : Int) = q.length := by simpa using h
  omega
 refine loop_inv (W := w_rscells) ctx mixed ok_rscells_0 (I_scs ex ey l q) (fun i => i ≤ l.length ∧ ∀ k, k < i → sameC (clAt l k) (clAt q k) = true) (fun i => l.length - i) 0 ⟨Nat.zero_le _, fun k hk => absurd hk (Nat.not_lt_zero k)⟩ ?_ fun i hi => ?_
 ·exact ent_of [] rfl (tm_cons rfl (sm_same rfl) (tm_cons rfl (sm_same rfl) (tm_cons rfl (sm_same rfl) tm_nil))) hp_nil
 obtain ⟨g1, g2⟩ := hi
 refine of_eq (rscells_L0 ex ey l q i 0 _) ⟨fun h => ?_, fun h => ?_⟩
 ·simp only [decide_eq_true_eq] at h
  have hi : i < l.length := by omega
  rw [toCl_A, toCl_A]
  refine ⟨(by first | omega | decide | (unfold I64; omega)), by omega, rscell_fun _ _ (h1.at hi) (h2.at (by omega)), trivial, fun h3 => ?_, fun h3 => ⟨(by first | omega | decide | (unfold I64; omega)), round_end (i + 1) ⟨by omega, fun k hk => ?_⟩ (ent_of [] rfl (tm_cons rfl (sm_same rfl) (tm_cons rfl (sm_same rfl) (tm_cons rfl (sm_same rfl) tm_nil))) hp_nil) (by dsimp only; omega)⟩⟩
  ·have h3 : sameC (clAt l i) (clAt q i) = false := by simpa using h3
   have e : sameCs l q = false := by
    unfold sameCs
    have : ((List.range l.length).all fun i => sameC (clAt l i) (clAt q i)) = false := Bool.eq_false_iff.2 fun hh => by
     have := List.all_eq_true.1 hh i (List.mem_range.2 hi)
     rw [h3] at this; cases this
    rw [this, Bool.and_false]
   rw [e]
   exact post_tmp rfl (sm_b rfl)
  ·by_cases e : k = i
   ·rw [e]; simpa using h3
   ·exact g2 k (by omega)
 ·simp only [decide_eq_false_iff_not] at h
  have e : sameCs l q = true := by
   unfold sameCs
   rw [decide_eq_true hl, List.all_eq_true.2 fun i hi => g2 i (by have := List.mem_range.1 hi; omega)]; rfl
  rw [e]
  exact post_tmp rfl (sm_b rfl)
end Go.Bu.W
namespace Go.Bu.W
open Sp
def sameJ (a b : Jb) : Bool := (a.dr == b.dr) && sameC a.c b.c
def sameD (d e : Dk) : Bool := sameCs d.l e.l && (decide (d.q.length = e.q.length) && (List.range d.q.length).all fun i => sameJ (jbAt d.q i) (jbAt e.q i))
def crSame : List AV → Option (AV × List (Nat × Blk))
 | [x, y] => some (.sb (sameD (toDk x) (toDk y)), [])
 | _ => none
def crSB (g : Nat) (args : List AV) (H : List (Nat × Blk)) : Option (AV × List (Nat × Blk)) :=
 sel (Nat.beq g F_rsame) (crSame args) <| crSA g args H
def wayM (keep : List Nat) (nt : Nat) (cuts : List Nat) : Way := ⟨crSB, fun _ => false, keep, [], nt, cuts, []⟩
def w_rsame : Way := wayM [0, 1, 2, 3, 4, 5, 20, 25, 56] 57 []
def w_swrote : Way := wayM [0, 1, 2, 3, 4] 17 []
def I_sd (ex ey ez ew : Bool) (d e : Dk) (i : Nat) : St := { tm := [(2, .ptr 2 []), (3, .ptr 3 []), (5, .i i)], hp := [(2, .c (dkA ex ey d)), (3, .c (dkA ez ew e))], seen := [2, 3] }
theorem rsame_A (ex ey ez ew : Bool) (d e : Dk) {D : Dom} (K : Nat) (Φ : Ex → St → Prop) :
 (Holds C P 57 D K Φ (vc C w_rsame b_rsame [] (start [dkA ex ey d, dkA ez ew e] []) lf)) =
 (Fun C P 36 [(csA ex (Dk.l d)), (csA ez (Dk.l e))] [] (AV.sb (sameCs (toCls (csA ex (Dk.l d))) (toCls (csA ez (Dk.l e))))) [] ∧
 (True ∧
 (((! (sameCs (toCls (csA ex (Dk.l d))) (toCls (csA ez (Dk.l e))))) = true →
 (Φ Ex.ret (St.mk [(0, (dkA ex ey d)), (1, (dkA ez ew e)), (2, (AV.ptr 2 [])), (3, (AV.ptr 3 [])), (4, (AV.v (Value.bool false))), (20, (AV.v (Value.bool true)))] [(2, (Blk.c (dkA ex ey d))), (3, (Blk.c (dkA ez ew e)))] [3, 2]))) ∧
 ((! (sameCs (toCls (csA ex (Dk.l d))) (toCls (csA ez (Dk.l e))))) = false →
 ((((((List.length (Dk.q d)) : Nat) : Int) != (((List.length (Dk.q e)) : Nat) : Int)) = true →
 (Φ Ex.ret (St.mk [(0, (dkA ex ey d)), (1, (dkA ez ew e)), (2, (AV.ptr 2 [])), (3, (AV.ptr 3 [])), (4, (AV.v (Value.bool false))), (20, (AV.v (Value.bool true)))] [(2, (Blk.c (dkA ex ey d))), (3, (Blk.c (dkA ez ew e)))] [3, 2]))) ∧
 (((((List.length (Dk.q d)) : Nat) : Int) != (((List.length (Dk.q e)) : Nat) : Int)) = false →
 (LoopOK C P 57 D K (bodyAt b_rsame [1, 1, 0, 1, 0]) (St.mk [(0, (dkA ex ey d)), (1, (dkA ez ew e)), (2, (AV.ptr 2 [])), (3, (AV.ptr 3 [])), (4, (AV.v (Value.bool false))), (5, (AV.i (0 : Int))), (20, (AV.v (Value.bool false)))] [(2, (Blk.c (dkA ex ey d))), (3, (Blk.c (dkA ez ew e)))] [3, 2]) (fun (e : Ex) (S' : St) => Holds C P 57 D K Φ (after C w_rsame b_rsame [1, 1, 0, 1, 0] [] lf e S'))))))))) := by kernel_rfl
noncomputable abbrev bd_rsame_0 : Code := bodyAt (b_rsame) [1, 1, 0, 1, 0]
theorem ok_rsame_0 : codeOK bd_rsame_0 = true := by kernel_rfl
noncomputable abbrev rest_rsame_0 (D : Dom) (K : Nat) (Φ : Ex → St → Prop) : Ex → St → Prop := fun e S' => Holds C P 57 D K Φ (after C w_rsame (b_rsame) [1, 1, 0, 1, 0] [] lf e S')
theorem rsame_L0 (ex ey ez ew : Bool) (d e : Dk) (i : Nat) {D : Dom} (K : Nat) (Φ : Ex → St → Prop) :
 (Holds C P 57 D K (RoundQ C 57 D K (I_sd ex ey ez ew d e) (fun i => i ≤ d.q.length ∧ ∀ k, k < i → sameJ (jbAt d.q k) (jbAt e.q k) = true) (fun i => d.q.length - i) ((fun i => d.q.length - i) (i)) (rest_rsame_0 D K Φ)) (vc C w_rsame bd_rsame_0 [] ((I_sd ex ey ez ew d e) (i)) lf)) =
 (((decide (((i : Nat) : Int) < (((List.length (Dk.q d)) : Nat) : Int))) = true →
 ((((0 : Int) ≤ ((i : Nat) : Int)) ∧ (((i : Nat) : Int) < (((List.length (Dk.q d)) : Nat) : Int))) ∧
 ((((0 : Int) ≤ ((i : Nat) : Int)) ∧ (((i : Nat) : Int) < (((List.length (Dk.q e)) : Nat) : Int))) ∧
 (((! ((Jb.dr (jbAt (Dk.q d) i)) == (Jb.dr (jbAt (Dk.q e) i)))) = true →
 (Φ Ex.ret (St.mk [(2, (AV.ptr 2 [])), (3, (AV.ptr 3 [])), (4, (AV.v (Value.bool false))), (5, (AV.i ((i : Nat) : Int))), (25, (AV.v (Value.bool true))), (56, (AV.v (Value.bool true)))] [(2, (Blk.c (dkA ex ey d))), (3, (Blk.c (dkA ez ew e)))] [2, 3]))) ∧
 ((! ((Jb.dr (jbAt (Dk.q d) i)) == (Jb.dr (jbAt (Dk.q e) i)))) = false →
 ((((0 : Int) ≤ ((i : Nat) : Int)) ∧ (((i : Nat) : Int) < (((List.length (Dk.q d)) : Nat) : Int))) ∧
 ((((0 : Int) ≤ ((i : Nat) : Int)) ∧ (((i : Nat) : Int) < (((List.length (Dk.q e)) : Nat) : Int))) ∧
 (Fun C P 52 [(clA (Jb.c (jbAt (Dk.q d) i))), (clA (Jb.c (jbAt (Dk.q e) i)))] [] (AV.sb (sameC (toCl (clA (Jb.c (jbAt (Dk.q d) i)))) (toCl (clA (Jb.c (jbAt (Dk.q e) i)))))) [] ∧
 (True ∧
 (((! (sameC (toCl (clA (Jb.c (jbAt (Dk.q d) i)))) (toCl (clA (Jb.c (jbAt (Dk.q e) i)))))) = true →
 (Φ Ex.ret (St.mk [(2, (AV.ptr 2 [])), (3, (AV.ptr 3 [])), (4, (AV.v (Value.bool false))), (5, (AV.i ((i : Nat) : Int))), (25, (AV.v (Value.bool true))), (56, (AV.v (Value.bool true)))] [(2, (Blk.c (dkA ex ey d))), (3, (Blk.c (dkA ez ew e)))] [2, 3]))) ∧
 ((! (sameC (toCl (clA (Jb.c (jbAt (Dk.q d) i)))) (toCl (clA (Jb.c (jbAt (Dk.q e) i)))))) = false →
 ((I64 (((i + 1) : Nat) : Int)) ∧
 ((RoundQ C 57 D K (I_sd ex ey ez ew d e) (fun i => i ≤ d.q.length ∧ ∀ k, k < i → sameJ (jbAt d.q k) (jbAt e.q k) = true) (fun i => d.q.length - i) ((fun i => d.q.length - i) (i)) (rest_rsame_0 D K Φ)) Ex.normal (St.mk [(2, (AV.ptr 2 [])), (3, (AV.ptr 3 [])), (5, (AV.i (((i + 1) : Nat) : Int))), (25, (AV.v (Value.bool true))), (56, (AV.v (Value.bool false)))] [(2, (Blk.c (dkA ex ey d))), (3, (Blk.c (dkA ez ew e)))] [2, 3])))))))))))))) ∧
 ((decide (((i : Nat) : Int) < (((List.length (Dk.q d)) : Nat) : Int))) = false →
 (Φ Ex.ret (St.mk [(2, (AV.ptr 2 [])), (3, (AV.ptr 3 [])), (4, (AV.v (Value.bool true))), (5, (AV.i ((i : Nat) : Int))), (25, (AV.v (Value.bool false)))] [(2, (Blk.c (dkA ex ey d))), (3, (Blk.c (dkA ez ew e)))] [2, 3])))) := by kernel_rfl
theorem swrote_A (ex ey ez ew : Bool) (d e : Dk) (x y : Int) {D : Dom} (K : Nat) (Φ : Ex → St → Prop) :
 (Holds C P 17 D K Φ (vc C w_swrote b_swrote [] (start [.st [dkA ex ey d, .i x], .st [dkA ez ew e, .i y]] []) lf)) =
 (Fun C P 22 [(dkA ex ey d), (dkA ez ew e)] [] (AV.sb (sameD (toDk (dkA ex ey d)) (toDk (dkA ez ew e)))) [] ∧
 (True ∧
 (((sameD (toDk (dkA ex ey d)) (toDk (dkA ez ew e))) = true →
 (Φ Ex.ret (St.mk [(0, (AV.st [(dkA ex ey d), (AV.i x)])), (1, (AV.st [(dkA ez ew e), (AV.i y)])), (2, (AV.ptr 2 [])), (3, (AV.ptr 3 [])), (4, (AV.sb (x == y)))] [(2, (Blk.c (AV.st [(dkA ex ey d), (AV.i x)]))), (3, (Blk.c (AV.st [(dkA ez ew e), (AV.i y)])))] [3, 2]))) ∧
 ((sameD (toDk (dkA ex ey d)) (toDk (dkA ez ew e))) = false →
 (Φ Ex.ret (St.mk [(0, (AV.st [(dkA ex ey d), (AV.i x)])), (1, (AV.st [(dkA ez ew e), (AV.i y)])), (2, (AV.ptr 2 [])), (3, (AV.ptr 3 [])), (4, (AV.v (Value.bool false)))] [(2, (Blk.c (AV.st [(dkA ex ey d), (AV.i x)]))), (3, (Blk.c (AV.st [(dkA ez ew e), (AV.i y)])))] [3, 2])))))) := by kernel_rfl
theorem sameD_refl (d : Dk) : sameD d d = true := by
 unfold sameD
 rw [sameCs_refl, decide_eq_true rfl, List.all_eq_true.2 fun i _ => by unfold sameJ; rw [sameC_refl]; simp]; rfl
structure SmD (d : Dk) : Prop where
  l : SmCs d.l
  q : ∀ j, j ∈ d.q → Small j.c.b
theorem SmD.at {d : Dk} (h : SmD d) {i : Nat} (hi : i < d.q.length) : Small (jbAt d.q i).c.b := by
 refine h.q _ ?_
 unfold jbAt
 rw [List.getD_eq_getElem?_getD, List.getElem?_eq_getElem hi]
 exact List.getElem_mem hi
theorem VD.smD {d : Dk} (h : VD d) : SmD d := ⟨fun c hc => (h.cs c hc).2.2.2.2.2.1, fun j hj => (h.js j hj).1.2.2.2.2.2.1⟩
theorem rsame_fun (ex ey ez ew : Bool) (d e : Dk) (hd : SmD d) (he : SmD e) (hn : d.l.length + d.q.length < 2 ^ 40) : Fun C P F_rsame [dkA ex ey d, dkA ez ew e] [] (.sb (sameD d e)) [] := by
 refine in_rsame (W := w_rsame) rfl 0 (by simp) rfl (fun id h => absurd rfl h) fun D => ?_
 refine of_eq (rsame_A ex ey ez ew d e 0 _) ?_
 rw [toCls_A, toCls_A]
 refine ⟨rscells_fun ex ez d.l e.l hd.l he.l (by omega), trivial, fun h => ?_, fun h => ⟨fun h2 => ?_, fun h2 => ?_⟩⟩
 ·have h : sameCs d.l e.l = false := by simpa using h
  have x : sameD d e = false := by unfold sameD; rw [h, Bool.false_and]
  rw [x]; exact post_tmp rfl (sm_b rfl)
 ·have hne : d.q.length ≠ e.q.length := fun hh => by rw [hh] at h2; simp at h2
  have x : sameD d e = false := by unfold sameD; rw [decide_eq_false hne, Bool.false_and, Bool.and_false]
  rw [x]; exact post_tmp rfl (sm_b rfl)
 have hcs : sameCs d.l e.l = true := by simpa using h
 have hl : d.q.length = e.q.length := by
  have : ((d.q.length : Nat) : Int) = e.q.length := by simpa using h2
  omega
 refine loop_inv (W := w_rsame) ctx mixed ok_rsame_0 (I_sd ex ey ez ew d e) (fun i => i ≤ d.q.length ∧ ∀ k, k < i → sameJ (jbAt d.q k) (jbAt e.q k) = true) (fun i => d.q.length - i) 0 ⟨Nat.zero_le _, fun k hk => absurd hk (Nat.not_lt_zero k)⟩ ?_ fun i hi => ?_
 ·exact ent_of [(2, 2), (3, 3)] rfl (tm_cons rfl (sm_ptr rfl) (tm_cons rfl (sm_ptr rfl) (tm_cons rfl (sm_same rfl) tm_nil))) (hp_cons rfl rfl (sm_same rfl) (hp_cons rfl rfl (sm_same rfl) hp_nil))
 obtain ⟨g1, g2⟩ := hi
 have bad : i < d.q.length → sameJ (jbAt d.q i) (jbAt e.q i) = false → sameD d e = false := fun hi hj => by
  unfold sameD
  have : ((List.range d.q.length).all fun i => sameJ (jbAt d.q i) (jbAt e.q i)) = false := Bool.eq_false_iff.2 fun hh => by
   have := List.all_eq_true.1 hh i (List.mem_range.2 hi)
   rw [hj] at this; cases this
  rw [this, Bool.and_false, Bool.and_false]
 refine of_eq (rsame_L0 ex ey ez ew d e i 0 _) ⟨fun h => ?_, fun h => ?_⟩
 ·simp only [decide_eq_true_eq] at h
  have hi : i < d.q.length := by omega
  rw [toCl_A, toCl_A]
  refine ⟨(by first | omega | decide | (unfold I64; omega)), by omega, fun h3 => ?_, fun h3 => ⟨(by first | omega | decide | (unfold I64; omega)), by omega, rscell_fun _ _ (hd.at hi) (he.at (by omega)), trivial, fun h4 => ?_, fun h4 => ⟨(by first | omega | decide | (unfold I64; omega)), round_end (i + 1) ⟨by omega, fun k hk => ?_⟩ (ent_of [(2, 2), (3, 3)] rfl (tm_cons rfl (sm_ptr rfl) (tm_cons rfl (sm_ptr rfl) (tm_cons rfl (sm_same rfl) tm_nil))) (hp_cons rfl rfl (sm_same rfl) (hp_cons rfl rfl (sm_same rfl) hp_nil))) (by dsimp only; omega)⟩⟩⟩
  ·rw [bad hi (by unfold sameJ; rw [Bool.not_eq_true'] at h3; rw [h3, Bool.false_and])]
   exact post_tmp rfl (sm_b rfl)
  ·rw [bad hi (by unfold sameJ; rw [Bool.not_eq_true'] at h4; rw [h4, Bool.and_false])]
   exact post_tmp rfl (sm_b rfl)
  ·by_cases x : k = i
   ·rw [x]
    unfold sameJ
    rw [Bool.not_eq_false'] at h3 h4
    rw [h3, h4]; rfl
   ·exact g2 k (by omega)
 ·simp only [decide_eq_false_iff_not] at h
  have x : sameD d e = true := by
   unfold sameD
   rw [hcs, decide_eq_true hl, List.all_eq_true.2 fun i hi => g2 i (by have := List.mem_range.1 hi; omega)]; rfl
  rw [x]
  exact post_tmp rfl (sm_b rfl)
theorem swrote_fun (ex ey ez ew : Bool) (d e : Dk) (x y : Int) (hd : SmD d) (he : SmD e) (hn : d.l.length + d.q.length < 2 ^ 40) : Fun C P F_swrote [.st [dkA ex ey d, .i x], .st [dkA ez ew e, .i y]] [] (.sb (sameD d e && (x == y))) [] := by
 refine in_swrote (W := w_swrote) rfl 0 (by simp) rfl (fun id h => absurd rfl h) fun D => ?_
 refine of_eq (swrote_A ex ey ez ew d e x y 0 _) ?_
 rw [toDk_A, toDk_A]
 refine ⟨rsame_fun ex ey ez ew d e hd he hn, trivial, fun h => ?_, fun h => ?_⟩
 ·rw [h, Bool.true_and]; exact post_tmp rfl (sm_same rfl)
 ·rw [h, Bool.false_and]; exact post_tmp rfl (sm_b rfl)
end Go.Bu.W
namespace Go.Bu.W
open Sp
def crBad : List AV → Option (AV × List (Nat × Blk))
 | [x] => some (csA false (badL (cont (toDk x))), [])
 | _ => none
def crSC (g : Nat) (args : List AV) (H : List (Nat × Blk)) : Option (AV × List (Nat × Blk)) :=
 sel (Nat.beq g F_rbad) (crBad args) <| crSB g args H
def wayN (keep : List Nat) (nt : Nat) (cuts : List Nat) : Way := ⟨crSC, fun _ => false, keep, [], nt, cuts, []⟩
def w_rbad : Way := wayN [0, 1, 2, 3, 4, 5, 12, 20] 29 [2]
def badN (l : List Cl) (i : Nat) : List Cl := badL (l.take i)
def S_rb2 (l : List Cl) : St := { tm := [(3, csA false l), (4, slC 4 [])], hp := [(4, .c (arC []))], seen := [4] }
def I_rb (l : List Cl) (o : Nat → List Cl) (i : Nat) : St := { tm := [(3, csA false l), (4, slC 4 (o i)), (5, .i i)], hp := [(4, .c (arC (o i)))], seen := [4] }
theorem rbad_A (ex ey : Bool) (d : Dk) {D : Dom} (K : Nat) (Φ : Ex → St → Prop) :
 (Holds C P 29 D K Φ (vc C w_rbad b_rbad [] (start [dkA ex ey d] []) lf)) =
 (Fun C P 55 [(dkA ex ey d)] [] (csA false (cont (toDk (dkA ex ey d)))) [] ∧
 (∃ (S2 : St), Ent C 29 D K (St.mk [(0, (dkA ex ey d)), (1, (AV.ptr 1 [])), (2, (AV.dat 0 true 0 (fun (x : Nat) => (AV.v (Value.tuple #[]))))), (3, (csA false (cont (toDk (dkA ex ey d))))), (4, (AV.sl 8 [] 0 0 0 true 35))] [(1, (Blk.c (dkA ex ey d))), (8, (Blk.c (AV.st [])))] [8, 1]) S2 ∧ Holds C P 29 D K Φ (cutAt C w_rbad b_rbad [1, 1, 0, 0] S2 (after C w_rbad b_rbad [1, 1, 0, 0] [] lf)))) := by kernel_rfl
theorem rbad_C2 (l : List Cl) {D : Dom} (K : Nat) (Φ : Ex → St → Prop) :
 (Holds C P 29 D K Φ (cutAt C w_rbad b_rbad [1, 1, 0, 0] (S_rb2 l) (after C w_rbad b_rbad [1, 1, 0, 0] [] lf))) =
 (LoopOK C P 29 D K (bodyAt b_rbad [1, 1, 0, 1, 0]) (St.mk [(3, (csA false l)), (4, (AV.sl 4 [] 0 0 0 false 35)), (5, (AV.i (0 : Int)))] [(4, (Blk.c (AV.arr 0 35 (rowC ([] : List Cl)))))] [4]) (fun (e : Ex) (S' : St) => Holds C P 29 D K Φ (after C w_rbad b_rbad [1, 1, 0, 1, 0] [] lf e S'))) := by kernel_rfl
noncomputable abbrev bd_rbad_0 : Code := bodyAt (b_rbad) [1, 1, 0, 1, 0]
theorem ok_rbad_0 : codeOK bd_rbad_0 = true := by kernel_rfl
noncomputable abbrev rest_rbad_0 (D : Dom) (K : Nat) (Φ : Ex → St → Prop) : Ex → St → Prop := fun e S' => Holds C P 29 D K Φ (after C w_rbad (b_rbad) [1, 1, 0, 1, 0] [] lf e S')
theorem rbad_L0 (l : List Cl) (o : Nat → List Cl) (i : Nat) {D : Dom} (K : Nat) (Φ : Ex → St → Prop) :
 (Holds C P 29 D K (RoundQ C 29 D K (I_rb l o) (fun i => i ≤ l.length) (fun i => l.length - i) ((fun i => l.length - i) (i)) (rest_rbad_0 D K Φ)) (vc C w_rbad bd_rbad_0 [] ((I_rb l o) (i)) lf)) =
 (((decide (((i : Nat) : Int) < (((List.length l) : Nat) : Int))) = true →
 ((((0 : Int) ≤ ((i : Nat) : Int)) ∧ (((i : Nat) : Int) < (((List.length l) : Nat) : Int))) ∧
 (Fun C P 59 [(clA (clAt l i))] [] (AV.sb (whC (toCl (clA (clAt l i))))) [] ∧
 (True ∧
 (((! (whC (toCl (clA (clAt l i))))) = true →
 ((((0 : Int) ≤ ((i : Nat) : Int)) ∧ (((i : Nat) : Int) < (((List.length l) : Nat) : Int))) ∧
 (((((List.length (o i)) + 1) * 72) ≤ 140737488355328) ∧
 ((I64 (((i + 1) : Nat) : Int)) ∧
 ((RoundQ C 29 D K (I_rb l o) (fun i => i ≤ l.length) (fun i => l.length - i) ((fun i => l.length - i) (i)) (rest_rbad_0 D K Φ)) Ex.normal (St.mk [(3, (csA false l)), (4, (AV.sl 27 [] 0 ((List.length (o i)) + 1) ((List.length (o i)) + 1) false 35)), (5, (AV.i (((i + 1) : Nat) : Int))), (12, (AV.v (Value.bool true))), (20, (AV.v (Value.bool true)))] [(26, (Blk.c (AV.st [(clA (clAt l i))]))), (27, (Blk.c (AV.arr ((List.length (o i)) + 1) 35 (cat (List.length (o i)) (fun (i1 : Nat) => (clA (clAt (o i) (0 + i1)))) (fun (i1 : Nat) => (nthD [(clA (clAt l i))] (0 + i1) (AV.v (Value.tuple #[]))))))))] [27, 26, 4])))))) ∧
 ((! (whC (toCl (clA (clAt l i))))) = false →
 ((I64 (((i + 1) : Nat) : Int)) ∧
 ((RoundQ C 29 D K (I_rb l o) (fun i => i ≤ l.length) (fun i => l.length - i) ((fun i => l.length - i) (i)) (rest_rbad_0 D K Φ)) Ex.normal (St.mk [(3, (csA false l)), (4, (AV.sl 4 [] 0 (List.length (o i)) (List.length (o i)) false 35)), (5, (AV.i (((i + 1) : Nat) : Int))), (12, (AV.v (Value.bool true))), (20, (AV.v (Value.bool false)))] [(4, (Blk.c (AV.arr (List.length (o i)) 35 (rowC (o i)))))] [4]))))))))) ∧
 ((decide (((i : Nat) : Int) < (((List.length l) : Nat) : Int))) = false →
 (Φ Ex.ret (St.mk [(2, (AV.sl 4 [] 0 (List.length (o i)) (List.length (o i)) false 35)), (3, (csA false l)), (4, (AV.sl 4 [] 0 (List.length (o i)) (List.length (o i)) false 35)), (5, (AV.i ((i : Nat) : Int))), (12, (AV.v (Value.bool false)))] [(4, (Blk.c (AV.arr (List.length (o i)) 35 (rowC (o i)))))] [4])))) := by kernel_rfl
theorem badN_succ {l : List Cl} {i : Nat} (hi : i < l.length) : badN l (i + 1) = badN l i ++ if whC (clAt l i) = true then [] else [clAt l i] := by
 unfold badN badL
 rw [List.take_succ_eq_append_getElem hi, List.filter_append, clAt_lt hi]
 congr 1
 cases h : whC l[i] <;> simp [h]
theorem rbad_fun (ex ey : Bool) (d : Dk) (hv : VD d) (hn : d.l.length + d.q.length < 2 ^ 36) : Fun C P F_rbad [dkA ex ey d] [] (csA false (badL (cont d))) [] := by
 refine in_rbad (W := w_rbad) rfl 0 (by simp) rfl (fun id h => absurd rfl h) fun D => ?_
 refine of_eq (rbad_A ex ey d 0 _) ?_
 rw [toDk_A]
 have hc := rcont_fun ex ey d hv.so hn
 have hsm := fun c hc => hv.smc (c := c) hc
 have hln : (cont d).length ≤ d.l.length + d.q.length := prN_len hv.so d.q d.q.length
 obtain ⟨l, el⟩ : ∃ l, l = cont d := ⟨_, rfl⟩
 rw [← el] at hc hsm hln ⊢
 clear el
 refine ⟨hc, cut_ok (S2 := S_rb2 l) (ent_of [(8, 4)] rfl (tm_cons rfl (sm_same rfl) (tm_cons rfl (sm_sl rfl rfl (Nat.le_refl _) (Nat.le_refl _) (by simp)) tm_nil)) (hp_cons rfl rfl (sm_row rfl rfl rfl fun i x hx => (by cases hx)) hp_nil)) ?_⟩
 refine of_eq (rbad_C2 l 0 _) ?_
 refine loop_inv (W := w_rbad) ctx mixed ok_rbad_0 (I_rb l (badN l)) (fun i => i ≤ l.length) (fun i => l.length - i) 0 (Nat.zero_le _) ?_ fun i hi => ?_
 ·exact ent_of [(4, 4)] rfl (tm_cons rfl (sm_same rfl) (tm_cons rfl (sm_sl rfl rfl (Nat.le_refl _) (Nat.le_refl _) (by simp)) (tm_cons rfl (sm_same rfl) tm_nil))) (hp_cons rfl rfl (sm_same rfl) hp_nil)
 have hlen : (badN l i).length ≤ l.length := by
  have h1 := List.length_filter_le (fun c => !whC c) (l.take i)
  have h2 : (l.take i).length ≤ l.length := by rw [List.length_take]; omega
  show (List.filter (fun c => !whC c) (l.take i)).length ≤ _
  omega
 refine of_eq (rbad_L0 l (badN l) i 0 _) ⟨fun h => ?_, fun h => ?_⟩
 ·simp only [decide_eq_true_eq] at h
  have hlt : i < l.length := by omega
  obtain ⟨m1, m2⟩ := hsm (clAt l i) (by rw [clAt_lt hlt]; exact List.getElem_mem hlt)
  have hs := badN_succ hlt
  rw [toCl_A]
  refine ⟨(by first | omega | decide | (unfold I64; omega)), rwhole_fun _ m1 m2, trivial, fun h3 => ?_, fun h3 => ?_⟩
  ·rw [Bool.not_eq_true'] at h3
   rw [if_neg (by rw [h3]; simp)] at hs
   have e2 : (badN l i).length + 1 = (badN l (i + 1)).length := by rw [hs]; simp
   refine ⟨(by first | omega | decide | (unfold I64; omega)), by omega, (by first | omega | decide | (unfold I64; omega)), round_end (i + 1) (by omega) (ent_of [(27, 4)] rfl (tm_cons rfl (sm_same rfl) (tm_cons rfl (sm_sl rfl e2 (by omega) (by omega) (by simp)) (tm_cons rfl (sm_same rfl) tm_nil))) (hp_cons rfl rfl (sm_arr' e2 fun k hk => ?_) hp_nil)) (by dsimp only; omega)⟩
   rw [hs]; exact cl_row hk
  ·rw [Bool.not_eq_false'] at h3
   rw [if_pos h3, List.append_nil] at hs
   have e2 : (badN l i).length = (badN l (i + 1)).length := by rw [hs]
   refine ⟨(by first | omega | decide | (unfold I64; omega)), round_end (i + 1) (by omega) (ent_of [(4, 4)] rfl (tm_cons rfl (sm_same rfl) (tm_cons rfl (sm_sl rfl e2 (by omega) (by omega) (by simp)) (tm_cons rfl (sm_same rfl) tm_nil))) (hp_cons rfl rfl (sm_arr' e2 fun k hk => ?_) hp_nil)) (by dsimp only; omega)⟩
   rw [hs]
 ·simp only [decide_eq_false_iff_not] at h
  obtain rfl : i = l.length := by omega
  have e : badN l l.length = badL l := by unfold badN; rw [List.take_length]
  refine post_frz [4] (post_tmp rfl (sm_dat' (by rw [e]) (by simp) fun k hk => ?_))
  rw [e, Nat.zero_add]
end Go.Bu.W
namespace Go.Bu.W
open Sp
abbrev nuA (c : Cl) : AV := .arr 2 1 (fun k => .i (num2 c k))
abbrev nlA (ex : Bool) (l : List Cl) : AV := .dat l.length ex 2 (fun i => nuA (clAt l i))
def crList : List AV → Option (AV × List (Nat × Blk))
 | [x] => some (nlA false (cont (toDk x)), [])
 | _ => none
def crSD (g : Nat) (args : List AV) (H : List (Nat × Blk)) : Option (AV × List (Nat × Blk)) :=
 sel (Nat.beq g F_rlist) (crList args) <| crSC g args H
def wayO (keep : List Nat) (nt : Nat) (cuts : List Nat) : Way := ⟨crSD, fun _ => false, keep, [], nt, cuts, []⟩
def w_rlist : Way := wayO [0, 1, 2, 3, 4, 5, 12] 30 [2]
abbrev anC (l : List Cl) (i : Nat) : AV := .arr i 2 (fun k => nuA (clAt l k))
def S_rl2 (l : List Cl) : St := { tm := [(3, csA false l), (4, .sl 4 [] 0 0 0 false 2)], hp := [(4, .c (anC l 0))], seen := [4] }
def I_rl (l : List Cl) (i : Nat) : St := { tm := [(3, csA false l), (4, .sl 4 [] 0 i i false 2), (5, .i i)], hp := [(4, .c (anC l i))], seen := [4] }
theorem rlist_A (ex ey : Bool) (d : Dk) {D : Dom} (K : Nat) (Φ : Ex → St → Prop) :
 (Holds C P 30 D K Φ (vc C w_rlist b_rlist [] (start [dkA ex ey d] []) lf)) =
 (Fun C P 55 [(dkA ex ey d)] [] (csA false (cont (toDk (dkA ex ey d)))) [] ∧
 (∃ (S2 : St), Ent C 30 D K (St.mk [(0, (dkA ex ey d)), (1, (AV.ptr 1 [])), (2, (AV.dat 0 true 0 (fun (x : Nat) => (AV.v (Value.tuple #[]))))), (3, (csA false (cont (toDk (dkA ex ey d))))), (4, (AV.sl 8 [] 0 0 0 true 2))] [(1, (Blk.c (dkA ex ey d))), (8, (Blk.c (AV.st [])))] [8, 1]) S2 ∧ Holds C P 30 D K Φ (cutAt C w_rlist b_rlist [1, 1, 0, 0] S2 (after C w_rlist b_rlist [1, 1, 0, 0] [] lf)))) := by kernel_rfl
theorem rlist_C2 (l : List Cl) {D : Dom} (K : Nat) (Φ : Ex → St → Prop) :
 (Holds C P 30 D K Φ (cutAt C w_rlist b_rlist [1, 1, 0, 0] (S_rl2 l) (after C w_rlist b_rlist [1, 1, 0, 0] [] lf))) =
 (LoopOK C P 30 D K (bodyAt b_rlist [1, 1, 0, 1, 0]) (St.mk [(3, (csA false l)), (4, (AV.sl 4 [] 0 0 0 false 2)), (5, (AV.i (0 : Int)))] [(4, (Blk.c (AV.arr 0 2 (fun (k : Nat) => (AV.arr 2 1 (fun (k1 : Nat) => (AV.i (num2 (clAt l k) k1))))))))] [4]) (fun (e : Ex) (S' : St) => Holds C P 30 D K Φ (after C w_rlist b_rlist [1, 1, 0, 1, 0] [] lf e S'))) := by kernel_rfl
noncomputable abbrev bd_rlist_0 : Code := bodyAt (b_rlist) [1, 1, 0, 1, 0]
theorem ok_rlist_0 : codeOK bd_rlist_0 = true := by kernel_rfl
noncomputable abbrev rest_rlist_0 (D : Dom) (K : Nat) (Φ : Ex → St → Prop) : Ex → St → Prop := fun e S' => Holds C P 30 D K Φ (after C w_rlist (b_rlist) [1, 1, 0, 1, 0] [] lf e S')
theorem rlist_L0 (l : List Cl) (i : Nat) {D : Dom} (K : Nat) (Φ : Ex → St → Prop) :
 (Holds C P 30 D K (RoundQ C 30 D K (I_rl l) (fun i => i ≤ l.length) (fun i => l.length - i) ((fun i => l.length - i) (i)) (rest_rlist_0 D K Φ)) (vc C w_rlist bd_rlist_0 [] ((I_rl l) (i)) lf)) =
 (((decide (((i : Nat) : Int) < (((List.length l) : Nat) : Int))) = true →
 ((((0 : Int) ≤ ((i : Nat) : Int)) ∧ (((i : Nat) : Int) < (((List.length l) : Nat) : Int))) ∧
 ((((0 : Int) ≤ ((i : Nat) : Int)) ∧ (((i : Nat) : Int) < (((List.length l) : Nat) : Int))) ∧
 ((((i + 1) * 16) ≤ 140737488355328) ∧
 ((I64 (((i + 1) : Nat) : Int)) ∧
 ((RoundQ C 30 D K (I_rl l) (fun i => i ≤ l.length) (fun i => l.length - i) ((fun i => l.length - i) (i)) (rest_rlist_0 D K Φ)) Ex.normal (St.mk [(3, (csA false l)), (4, (AV.sl 28 [] 0 (i + 1) (i + 1) false 2)), (5, (AV.i (((i + 1) : Nat) : Int))), (12, (AV.v (Value.bool true)))] [(27, (Blk.c (AV.st [(AV.arr 2 1 (layParts (fun (x : Nat) => (AV.i (0 : Int))) [(0, (AV.i (Cl.i (clAt l i)))), (1, (AV.i (Cl.s (clAt l i))))]))]))), (28, (Blk.c (AV.arr (i + 1) 2 (cat i (fun (i1 : Nat) => (AV.arr 2 1 (fun (k : Nat) => (AV.i (num2 (clAt l (0 + i1)) k))))) (fun (i1 : Nat) => (nthD [(AV.arr 2 1 (layParts (fun (x : Nat) => (AV.i (0 : Int))) [(0, (AV.i (Cl.i (clAt l i)))), (1, (AV.i (Cl.s (clAt l i))))]))] (0 + i1) (AV.v (Value.tuple #[]))))))))] [28, 27, 4]))))))) ∧
 ((decide (((i : Nat) : Int) < (((List.length l) : Nat) : Int))) = false →
 (Φ Ex.ret (St.mk [(2, (AV.sl 4 [] 0 i i false 2)), (3, (csA false l)), (4, (AV.sl 4 [] 0 i i false 2)), (5, (AV.i ((i : Nat) : Int))), (12, (AV.v (Value.bool false)))] [(4, (Blk.c (AV.arr i 2 (fun (k : Nat) => (AV.arr 2 1 (fun (k1 : Nat) => (AV.i (num2 (clAt l k) k1))))))))] [4])))) := by kernel_rfl
theorem lay_num (c : Cl) : ∀ k, k < 2 → layParts (fun (_ : Nat) => AV.i 0) [(0, AV.i c.i), (1, AV.i c.s)] k = .i (num2 c k) := fun k hk => match k, hk with | 0, _ => rfl | 1, _ => rfl
theorem rlist_fun (ex ey : Bool) (d : Dk) (hv : VD d) (hn : d.l.length + d.q.length < 2 ^ 36) : Fun C P F_rlist [dkA ex ey d] [] (nlA false (cont d)) [] := by
 refine in_rlist (W := w_rlist) rfl 0 (by simp) rfl (fun id h => absurd rfl h) fun D => ?_
 refine of_eq (rlist_A ex ey d 0 _) ?_
 rw [toDk_A]
 have hc := rcont_fun ex ey d hv.so hn
 have hln : (cont d).length ≤ d.l.length + d.q.length := prN_len hv.so d.q d.q.length
 obtain ⟨l, el⟩ : ∃ l, l = cont d := ⟨_, rfl⟩
 rw [← el] at hc hln ⊢
 clear el
 refine ⟨hc, cut_ok (S2 := S_rl2 l) (ent_of [(8, 4)] rfl (tm_cons rfl (sm_same rfl) (tm_cons rfl (sm_sl rfl rfl (Nat.le_refl _) (Nat.le_refl _) (by simp)) tm_nil)) (hp_cons rfl rfl (sm_row rfl rfl rfl fun i x hx => (by cases hx)) hp_nil)) ?_⟩
 refine of_eq (rlist_C2 l 0 _) ?_
 refine loop_inv (W := w_rlist) ctx mixed ok_rlist_0 (I_rl l) (fun i => i ≤ l.length) (fun i => l.length - i) 0 (Nat.zero_le _) ?_ fun i hi => ?_
 ·exact ent_of [(4, 4)] rfl (tm_cons rfl (sm_same rfl) (tm_cons rfl (sm_sl rfl rfl (Nat.le_refl _) (Nat.le_refl _) (by simp)) (tm_cons rfl (sm_same rfl) tm_nil))) (hp_cons rfl rfl (sm_same rfl) hp_nil)
 refine of_eq (rlist_L0 l i 0 _) ⟨fun h => ?_, fun h => ?_⟩
 ·simp only [decide_eq_true_eq] at h
  refine ⟨(by first | omega | decide | (unfold I64; omega)), (by first | omega | decide | (unfold I64; omega)), by omega, (by first | omega | decide | (unfold I64; omega)), round_end (i + 1) (by omega) (ent_of [(28, 4)] rfl (tm_cons rfl (sm_same rfl) (tm_cons rfl (sm_sl rfl rfl (Nat.le_refl _) (Nat.le_refl _) (by simp)) (tm_cons rfl (sm_same rfl) tm_nil))) (hp_cons rfl rfl (.inr ⟨rfl, rfl, fun k hk => ?_⟩) hp_nil)) (by dsimp only; omega)⟩
  unfold cat
  by_cases e : k < i
  ·rw [if_pos e]
   exact .inl (by show nuA (clAt l (0 + k)) = _; rw [Nat.zero_add])
  ·rw [if_neg e]
   obtain rfl : k = i := by omega
   rw [Nat.sub_self]
   exact .inr ⟨rfl, rfl, fun m hm => .inl (lay_num _ m hm)⟩
 ·simp only [decide_eq_false_iff_not] at h
  obtain rfl : i = l.length := by omega
  exact post_frz [4] (post_tmp rfl (sm_dat' rfl (by simp) fun k hk => by rw [Nat.zero_add]))
end Go.Bu.W
namespace Go.Bu.W
open Sp
def I_rsl (ex ey : Bool) (l q : List Cl) (i : Nat) : St := { tm := [(0, nlA ex l), (1, nlA ey q), (5, .i i)], hp := [], seen := [] }
def w_rslist : Way := wayO [0, 1, 4, 5, 10, 14, 25] 26 []
theorem rslist_A (ex ey : Bool) (l q : List Cl) {D : Dom} (K : Nat) (Φ : Ex → St → Prop) :
 (Holds C P 26 D K Φ (vc C w_rslist b_rslist [] (start [nlA ex l, nlA ey q] []) lf)) =
 ((((((List.length l) : Nat) : Int) != (((List.length q) : Nat) : Int)) = true →
 (Φ Ex.ret (St.mk [(0, (AV.dat (List.length l) ex 2 (fun (i : Nat) => (AV.arr 2 1 (fun (k : Nat) => (AV.i (num2 (clAt l i) k))))))), (1, (AV.dat (List.length q) ey 2 (fun (i : Nat) => (AV.arr 2 1 (fun (k : Nat) => (AV.i (num2 (clAt q i) k))))))), (4, (AV.v (Value.bool false))), (10, (AV.v (Value.bool true)))] [] []))) ∧
 (((((List.length l) : Nat) : Int) != (((List.length q) : Nat) : Int)) = false →
 (LoopOK C P 26 D K (bodyAt b_rslist [1, 1, 0, 1, 0]) (St.mk [(0, (AV.dat (List.length l) ex 2 (fun (i : Nat) => (AV.arr 2 1 (fun (k : Nat) => (AV.i (num2 (clAt l i) k))))))), (1, (AV.dat (List.length q) ey 2 (fun (i : Nat) => (AV.arr 2 1 (fun (k : Nat) => (AV.i (num2 (clAt q i) k))))))), (4, (AV.v (Value.bool false))), (5, (AV.i (0 : Int))), (10, (AV.v (Value.bool false)))] [] []) (fun (e : Ex) (S' : St) => Holds C P 26 D K Φ (after C w_rslist b_rslist [1, 1, 0, 1, 0] [] lf e S'))))) := by kernel_rfl
noncomputable abbrev bd_rslist_0 : Code := bodyAt (b_rslist) [1, 1, 0, 1, 0]
theorem ok_rslist_0 : codeOK bd_rslist_0 = true := by kernel_rfl
noncomputable abbrev rest_rslist_0 (D : Dom) (K : Nat) (Φ : Ex → St → Prop) : Ex → St → Prop := fun e S' => Holds C P 26 D K Φ (after C w_rslist (b_rslist) [1, 1, 0, 1, 0] [] lf e S')
theorem rslist_L0 (ex ey : Bool) (l q : List Cl) (i : Nat) {D : Dom} (K : Nat) (Φ : Ex → St → Prop) :
 (Holds C P 26 D K (RoundQ C 26 D K (I_rsl ex ey l q) (fun i => i ≤ l.length) (fun i => l.length - i) ((fun i => l.length - i) (i)) (rest_rslist_0 D K Φ)) (vc C w_rslist bd_rslist_0 [] ((I_rsl ex ey l q) (i)) lf)) =
 (((decide (((i : Nat) : Int) < (((List.length l) : Nat) : Int))) = true →
 ((((0 : Int) ≤ ((i : Nat) : Int)) ∧ (((i : Nat) : Int) < (((List.length l) : Nat) : Int))) ∧
 ((((0 : Int) ≤ ((i : Nat) : Int)) ∧ (((i : Nat) : Int) < (((List.length q) : Nat) : Int))) ∧
 ((∀ (i1 : Nat), ((i1 < 2) → ((IntKind.i64 = IntKind.i64) ∧ (IntKind.i64 = IntKind.i64)))) ∧
 (((! (List.all (List.range 2) (fun (i1 : Nat) => ((num2 (clAt l i) i1) == (num2 (clAt q i) i1))))) = true →
 (Φ Ex.ret (St.mk [(0, (AV.dat (List.length l) ex 2 (fun (i1 : Nat) => (AV.arr 2 1 (fun (k : Nat) => (AV.i (num2 (clAt l i1) k))))))), (1, (AV.dat (List.length q) ey 2 (fun (i1 : Nat) => (AV.arr 2 1 (fun (k : Nat) => (AV.i (num2 (clAt q i1) k))))))), (4, (AV.v (Value.bool false))), (5, (AV.i ((i : Nat) : Int))), (14, (AV.v (Value.bool true))), (25, (AV.v (Value.bool true)))] [] []))) ∧
 ((! (List.all (List.range 2) (fun (i1 : Nat) => ((num2 (clAt l i) i1) == (num2 (clAt q i) i1))))) = false →
 ((I64 (((i + 1) : Nat) : Int)) ∧
 ((RoundQ C 26 D K (I_rsl ex ey l q) (fun i => i ≤ l.length) (fun i => l.length - i) ((fun i => l.length - i) (i)) (rest_rslist_0 D K Φ)) Ex.normal (St.mk [(0, (AV.dat (List.length l) ex 2 (fun (i1 : Nat) => (AV.arr 2 1 (fun (k : Nat) => (AV.i (num2 (clAt l i1) k))))))), (1, (AV.dat (List.length q) ey 2 (fun (i1 : Nat) => (AV.arr 2 1 (fun (k : Nat) => (AV.i (num2 (clAt q i1) k))))))), (5, (AV.i (((i + 1) : Nat) : Int))), (14, (AV.v (Value.bool true))), (25, (AV.v (Value.bool false)))] [] []))))))))) ∧
 ((decide (((i : Nat) : Int) < (((List.length l) : Nat) : Int))) = false →
 (Φ Ex.ret (St.mk [(0, (AV.dat (List.length l) ex 2 (fun (i1 : Nat) => (AV.arr 2 1 (fun (k : Nat) => (AV.i (num2 (clAt l i1) k))))))), (1, (AV.dat (List.length q) ey 2 (fun (i1 : Nat) => (AV.arr 2 1 (fun (k : Nat) => (AV.i (num2 (clAt q i1) k))))))), (4, (AV.v (Value.bool true))), (5, (AV.i ((i : Nat) : Int))), (14, (AV.v (Value.bool false)))] [] [])))) := by kernel_rfl
theorem rslist_fun (ex ey : Bool) (l : List Cl) (hn : l.length < 2 ^ 60) : Fun C P F_rslist [nlA ex l, nlA ey l] [] (.sb true) [] := by
 refine in_rslist (W := w_rslist) rfl 0 (by simp) rfl (fun id h => absurd rfl h) fun D => ?_
 refine of_eq (rslist_A ex ey l l 0 _) ⟨fun h => (by simp at h), fun _ => ?_⟩
 refine loop_inv (W := w_rslist) ctx mixed ok_rslist_0 (I_rsl ex ey l l) (fun i => i ≤ l.length) (fun i => l.length - i) 0 (Nat.zero_le _) ?_ fun i hi => ?_
 ·exact ent_of [] rfl (tm_cons rfl (sm_same rfl) (tm_cons rfl (sm_same rfl) (tm_cons rfl (sm_same rfl) tm_nil))) hp_nil
 refine of_eq (rslist_L0 ex ey l l i 0 _) ⟨fun h => ?_, fun h => ?_⟩
 ·simp only [decide_eq_true_eq] at h
  have hall : ((List.range 2).all fun k => num2 (clAt l i) k == num2 (clAt l i) k) = true := List.all_eq_true.2 fun k _ => by simp
  exact ⟨(by first | omega | decide | (unfold I64; omega)), (by first | omega | decide | (unfold I64; omega)), fun _ _ => ⟨rfl, rfl⟩, nf_then hall ⟨(by first | omega | decide | (unfold I64; omega)), round_end (i + 1) (by omega) (ent_of [] rfl (tm_cons rfl (sm_same rfl) (tm_cons rfl (sm_same rfl) (tm_cons rfl (sm_same rfl) tm_nil))) hp_nil) (by dsimp only; omega)⟩⟩
 ·exact post_tmp rfl (sm_b rfl)
end Go.Bu.W

