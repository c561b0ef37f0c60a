/- Keys are read from their bytes, and from no others. -/
import Derived.Test.YtelpjhdglgledaaDoorK21
namespace Go.Bu.W
open Sp
def w_lkb : Way := wayU [0, 1, 2, 5, 6, 7, 8, 9, 10, 11, 12, 13, 14, 42, 75] 100 [4,5,8,9,10,11]
def S_lkb4 (w : Nat → Nat) (k : List Cv) (b : List Nat) : St := { tm := [(5, .ptr 5 []), (7, .sb true), (8, .ptr 8 []), (9, dB false b)], hp := [(5, .c (w16 3 w)), (8, .c (ksA false k))], seen := [5, 8] }
def S_lkb5 (w : Nat → Nat) (k : List Cv) (b : List Nat) : St := { tm := [(5, .ptr 5 []), (7, .sb true), (8, .ptr 8 []), (9, dB false b), (10, .ptr 10 []), (11, .i 0)], hp := [(5, .c (w16 3 w)), (8, .c (ksA false k)), (10, .c (ksA false k))], seen := [5, 8, 10] }
def S_lkb8 (w : Nat → Nat) (o : List Nat) : St := { tm := [(5, .ptr 5 []), (7, .sb true), (12, .sl 12 [] 0 o.length o.length false 1)], hp := [(5, .c (w16 3 w)), (12, .c (.arr o.length 1 (rowL o)))], seen := [5, 12] }
def S_lkb9 (w : Nat → Nat) (o : List Nat) : St := { tm := [(5, .ptr 5 []), (7, .sb true), (12, dB false o)], hp := [(5, .c (w16 3 w))], seen := [5] }
def S_lkb10 (o : List Nat) : St := { tm := [(7, .sb true), (12, dB false o)], hp := [], seen := [] }
def S_lkb11 (o : List Nat) (c : List Cv) (f : Int) : St := { tm := [(7, .sb true), (12, dB false o), (13, .ptr 13 []), (14, .i f)], hp := [(13, .c (ksA false c))], seen := [13] }

theorem lkb_A (s : Nat) (ex : Bool) (ids : List Nat) (w : Nat → Nat) {D : Dom} (K : Nat) (Φ : Ex → St → Prop) :
  (Holds C P 100 D K Φ (vc C w_lkb b_lkb [] (start [u8 s, u16A ex ids, w16 3 w] []) lf)) =
  (Fun W.C W.P 11 [] [] (AV.sb true) [] ∧
 (True ∧
 (Fun W.C W.P 12 [(AV.v (Value.int IntKind.u8 ((s : Nat) : Int))), (W.u16A ex ids)] [] (W.ksA false (W.KV (W.seedK s) (W.goneD (W.u16L ids)))) [] ∧
 ((((true = true) ∧ (true = true)) ∧ True) ∧
 (Fun W.C W.P 30 [(W.ksA false (W.KV (W.seedK s) (W.goneD (W.u16L ids))))] [] (AV.dat (List.length (W.bytesK (W.toKs (W.ksA false (W.KV (W.seedK s) (W.goneD (W.u16L ids))))))) false 1 (rowL (W.bytesK (W.toKs (W.ksA false (W.KV (W.seedK s) (W.goneD (W.u16L ids)))))))) [] ∧
 (∃ (S2 : St), Ent W.C 100 D K (St.mk [(0, (AV.v (Value.int IntKind.u8 ((s : Nat) : Int)))), (1, (W.u16A ex ids)), (2, (W.w16 3 w)), (5, (AV.ptr 5 [])), (6, (AV.v (Value.bool false))), (7, (AV.sb true)), (8, (AV.ptr 8 [])), (9, (AV.dat (List.length (W.bytesK (W.toKs (W.ksA false (W.KV (W.seedK s) (W.goneD (W.u16L ids))))))) false 1 (rowL (W.bytesK (W.toKs (W.ksA false (W.KV (W.seedK s) (W.goneD (W.u16L ids)))))))))] [(5, (Blk.c (W.w16 3 w))), (8, (Blk.c (W.ksA false (W.KV (W.seedK s) (W.goneD (W.u16L ids))))))] [8, 5]) S2 ∧ Holds W.C W.P 100 D K Φ (cutAt W.C w_lkb b_lkb [1, 1, 1, 1, 0] S2 (after W.C w_lkb b_lkb [1, 1, 1, 1, 0] [] lf)))))))) := by kernel_rfl
theorem lkb_C4 (w : Nat → Nat) (k : List Cv) (b : List Nat) {D : Dom} (K : Nat) (Φ : Ex → St → Prop) :
  (Holds C P 100 D K Φ (cutAt C w_lkb b_lkb [1, 1, 1, 1, 0] (S_lkb4 w k b) (after C w_lkb b_lkb [1, 1, 1, 1, 0] [] lf))) =
  (Fun W.C W.P 32 [(AV.dat (List.length b) false 1 (rowL b))] [] (AV.tup [(W.ksA false (W.parsL (bytesL (List.length b) (rowL b)))), (AV.i (W.parsE (bytesL (List.length b) (rowL b))))]) [] ∧
 ((((true = true) ∧ (true = true)) ∧ True) ∧
 (∃ (S2 : St), Ent W.C 100 D K (St.mk [(5, (AV.ptr 5 [])), (7, (AV.sb true)), (8, (AV.ptr 8 [])), (9, (AV.dat (List.length b) false 1 (rowL b))), (10, (AV.ptr 10 [])), (11, (AV.i (W.parsE (bytesL (List.length b) (rowL b)))))] [(5, (Blk.c (W.w16 3 w))), (8, (Blk.c (W.ksA false k))), (10, (Blk.c (W.ksA false (W.parsL (bytesL (List.length b) (rowL b))))))] [10, 5, 8]) S2 ∧ Holds W.C W.P 100 D K Φ (cutAt W.C w_lkb b_lkb [1, 1, 1, 1, 1, 0, 0] S2 (after W.C w_lkb b_lkb [1, 1, 1, 1, 1, 0, 0] [] lf))))) := by kernel_rfl
theorem lkb_C5 (w : Nat → Nat) (k : List Cv) (b : List Nat) {D : Dom} (K : Nat) (Φ : Ex → St → Prop) :
  (Holds C P 100 D K Φ (cutAt C w_lkb b_lkb [1, 1, 1, 1, 1, 0, 0] (S_lkb5 w k b) (after C w_lkb b_lkb [1, 1, 1, 1, 1, 0, 0] [] lf))) =
  ((false = true →
 (Φ Ex.ret (St.mk [(5, (AV.ptr 5 [])), (6, (AV.v (Value.bool false))), (7, (AV.sb true)), (8, (AV.ptr 8 [])), (9, (AV.dat (List.length b) false 1 (rowL b))), (10, (AV.ptr 10 [])), (11, (AV.i (0 : Int))), (42, (AV.v (Value.bool true)))] [(5, (Blk.c (W.w16 3 w))), (8, (Blk.c (W.ksA false k))), (10, (Blk.c (W.ksA false k)))] [5, 8, 10]))) ∧
 (false = false →
 (Fun W.C W.P 19 [(W.ksA false k), (W.ksA false k)] [] (AV.sb (W.sameL (W.toKs (W.ksA false k)) (W.toKs (W.ksA false k)))) [] ∧
  (True ∧
  (((! (W.sameL (W.toKs (W.ksA false k)) (W.toKs (W.ksA false k)))) = true →
  (Φ Ex.ret (St.mk [(5, (AV.ptr 5 [])), (6, (AV.v (Value.bool false))), (7, (AV.sb true)), (8, (AV.ptr 8 [])), (9, (AV.dat (List.length b) false 1 (rowL b))), (10, (AV.ptr 10 [])), (11, (AV.i (0 : Int))), (42, (AV.v (Value.bool true)))] [(5, (Blk.c (W.w16 3 w))), (8, (Blk.c (W.ksA false k))), (10, (Blk.c (W.ksA false k)))] [5, 8, 10]))) ∧
  ((! (W.sameL (W.toKs (W.ksA false k)) (W.toKs (W.ksA false k)))) = false →
  ((I64 (((35 * (List.length k)) : Nat) : Int)) ∧
   ((((((List.length b) : Nat) : Int) != (((35 * (List.length k)) : Nat) : Int)) = true →
   (Φ Ex.ret (St.mk [(5, (AV.ptr 5 [])), (6, (AV.v (Value.bool false))), (7, (AV.sb true)), (8, (AV.ptr 8 [])), (9, (AV.dat (List.length b) false 1 (rowL b))), (10, (AV.ptr 10 [])), (11, (AV.i (0 : Int))), (42, (AV.v (Value.bool true)))] [(5, (Blk.c (W.w16 3 w))), (8, (Blk.c (W.ksA false k))), (10, (Blk.c (W.ksA false k)))] [5, 8, 10]))) ∧
   (((((List.length b) : Nat) : Int) != (((35 * (List.length k)) : Nat) : Int)) = false →
   ((((0 + (List.length b)) * 1) ≤ 140737488355328) ∧
    (∃ (S2 : St), Ent W.C 100 D K (St.mk [(5, (AV.ptr 5 [])), (7, (AV.sb true)), (8, (AV.ptr 8 [])), (9, (AV.dat (List.length b) false 1 (rowL b))), (10, (AV.ptr 10 [])), (11, (AV.i (0 : Int))), (12, (AV.sl 45 [] 0 (0 + (List.length b)) (0 + (List.length b)) false 1)), (42, (AV.v (Value.bool false)))] [(5, (Blk.c (W.w16 3 w))), (8, (Blk.c (W.ksA false k))), (10, (Blk.c (W.ksA false k))), (45, (Blk.c (AV.arr (0 + (List.length b)) 1 (cat 0 (fun (i : Nat) => (AV.v (Value.tuple (List.toArray [])))) (rowL b)))))] [45, 43, 5, 8, 10]) S2 ∧ Holds W.C W.P 100 D K Φ (cutAt W.C w_lkb b_lkb [1, 1, 1, 1, 1, 1, 1, 0] S2 (after W.C w_lkb b_lkb [1, 1, 1, 1, 1, 1, 1, 0] [] lf))))))))))))) := by kernel_rfl
theorem lkb_C8 (w : Nat → Nat) (o : List Nat) {D : Dom} (K : Nat) (Φ : Ex → St → Prop) :
  (Holds C P 100 D K Φ (cutAt C w_lkb b_lkb [1, 1, 1, 1, 1, 1, 1, 0] (S_lkb8 w o) (after C w_lkb b_lkb [1, 1, 1, 1, 1, 1, 1, 0] [] lf))) =
  ((((0 : Int) ≤ (0 : Int)) ∧ ((0 : Int) < (3 : Int))) ∧
 ((I64 (((w 0) : Nat) : Int)) ∧
 (((((List.length o) : Nat) : Int) ≠ (0 : Int)) ∧
 ((((0 : Int) ≤ ((((w 0) % (List.length o)) : Nat) : Int)) ∧ (((((w 0) % (List.length o)) : Nat) : Int) < (((List.length o) : Nat) : Int))) ∧
 ((((0 : Int) ≤ (1 : Int)) ∧ ((1 : Int) < (3 : Int))) ∧
 ((((0 : Int) ≤ ((((w 0) % (List.length o)) : Nat) : Int)) ∧ (((((w 0) % (List.length o)) : Nat) : Int) < (((List.length o) : Nat) : Int))) ∧
 (∃ (S2 : St), Ent W.C 100 D K (St.mk [(5, (AV.ptr 5 [])), (7, (AV.sb true)), (12, (AV.sl 12 [] 0 (List.length o) (List.length o) false 1))] [(5, (Blk.c (W.w16 3 w))), (12, (Blk.c (AV.arr (List.length o) 1 (fun (j : Nat) => (if (j = (0 + ((w 0) % (List.length o)))) then (AV.v (Value.int IntKind.u8 (bXor IntKind.u8 (((List.getD o (0 + ((w 0) % (List.length o))) 0) : Nat) : Int) (IntKind.wrap IntKind.u8 (((w 1) : Nat) : Int))))) else (AV.v (Value.int IntKind.u8 (((List.getD o j 0) : Nat) : Int))))))))] [5, 12]) S2 ∧ Holds W.C W.P 100 D K Φ (cutAt W.C w_lkb b_lkb [1, 1, 1, 1, 1, 1, 1, 1, 0] S2 (after W.C w_lkb b_lkb [1, 1, 1, 1, 1, 1, 1, 1, 0] [] lf))))))))) := by kernel_rfl
theorem lkb_C9 (w : Nat → Nat) (o : List Nat) {D : Dom} (K : Nat) (Φ : Ex → St → Prop) :
  (Holds C P 100 D K Φ (cutAt C w_lkb b_lkb [1, 1, 1, 1, 1, 1, 1, 1, 0] (S_lkb9 w o) (after C w_lkb b_lkb [1, 1, 1, 1, 1, 1, 1, 1, 0] [] lf))) =
  ((((0 : Int) ≤ (2 : Int)) ∧ ((2 : Int) < (3 : Int))) ∧
 (((4 : Int) ≠ (0 : Int)) ∧
 ((I64 ((((w 2) % 4) : Nat) : Int)) ∧
 ((I64 ((((List.length o) : Nat) : Int) - ((((w 2) % 4) : Nat) : Int))) ∧
 ((((0 : Int) ≤ (0 : Int)) ∧ (((0 : Int) ≤ ((((List.length o) : Nat) : Int) - ((((w 2) % 4) : Nat) : Int))) ∧ (((((List.length o) : Nat) : Int) - ((((w 2) % 4) : Nat) : Int)) ≤ (((List.length o) : Nat) : Int)))) ∧
 (∃ (S2 : St), Ent W.C 100 D K (St.mk [(5, (AV.ptr 5 [])), (7, (AV.sb true)), (12, (AV.dat (Int.toNat ((((List.length o) : Nat) : Int) - ((((w 2) % 4) : Nat) : Int))) Bool.false 1 (fun (i : Nat) => (AV.v (Value.int IntKind.u8 (((List.getD o (0 + i) 0) : Nat) : Int))))))] [(5, (Blk.c (W.w16 3 w)))] [5]) S2 ∧ Holds W.C W.P 100 D K Φ (cutAt W.C w_lkb b_lkb [1, 1, 1, 1, 1, 1, 1, 1, 1, 0] S2 (after W.C w_lkb b_lkb [1, 1, 1, 1, 1, 1, 1, 1, 1, 0] [] lf)))))))) := by kernel_rfl
theorem lkb_C10 (o : List Nat) {D : Dom} (K : Nat) (Φ : Ex → St → Prop) :
  (Holds C P 100 D K Φ (cutAt C w_lkb b_lkb [1, 1, 1, 1, 1, 1, 1, 1, 1, 0] (S_lkb10 o) (after C w_lkb b_lkb [1, 1, 1, 1, 1, 1, 1, 1, 1, 0] [] lf))) =
  (Fun W.C W.P 32 [(AV.dat (List.length o) false 1 (rowL o))] [] (AV.tup [(W.ksA false (W.parsL (bytesL (List.length o) (rowL o)))), (AV.i (W.parsE (bytesL (List.length o) (rowL o))))]) [] ∧
 ((((true = true) ∧ (true = true)) ∧ True) ∧
 (∃ (S2 : St), Ent W.C 100 D K (St.mk [(7, (AV.sb true)), (12, (AV.dat (List.length o) false 1 (rowL o))), (13, (AV.ptr 13 [])), (14, (AV.i (W.parsE (bytesL (List.length o) (rowL o)))))] [(13, (Blk.c (W.ksA false (W.parsL (bytesL (List.length o) (rowL o))))))] [13]) S2 ∧ Holds W.C W.P 100 D K Φ (cutAt W.C w_lkb b_lkb [1, 1, 1, 1, 1, 1, 1, 1, 1, 1, 0, 0] S2 (after W.C w_lkb b_lkb [1, 1, 1, 1, 1, 1, 1, 1, 1, 1, 0, 0] [] lf))))) := by kernel_rfl
theorem lkb_C11 (o : List Nat) (c : List Cv) (f : Int) {D : Dom} (K : Nat) (Φ : Ex → St → Prop) :
  (Holds C P 100 D K Φ (cutAt C w_lkb b_lkb [1, 1, 1, 1, 1, 1, 1, 1, 1, 1, 0, 0] (S_lkb11 o c f) (after C w_lkb b_lkb [1, 1, 1, 1, 1, 1, 1, 1, 1, 1, 0, 0] [] lf))) =
  (((f != (0 : Int)) = true →
 ((true = true →
  (((f == (3 : Int)) = true →
   (Φ Ex.ret (St.mk [(6, (AV.sb ((((List.length c) : Nat) : Int) == (0 : Int)))), (7, (AV.sb true)), (12, (AV.dat (List.length o) false 1 (rowL o))), (13, (AV.ptr 13 [])), (14, (AV.i f)), (75, (AV.v (Value.bool true)))] [(13, (Blk.c (W.ksA false c)))] [13]))) ∧
   ((f == (3 : Int)) = false →
   (Φ Ex.ret (St.mk [(6, (AV.v (Value.bool false))), (7, (AV.sb true)), (12, (AV.dat (List.length o) false 1 (rowL o))), (13, (AV.ptr 13 [])), (14, (AV.i f)), (75, (AV.v (Value.bool true)))] [(13, (Blk.c (W.ksA false c)))] [13]))))) ∧
  (true = false →
  (Φ Ex.ret (St.mk [(6, (AV.v (Value.bool false))), (7, (AV.sb true)), (12, (AV.dat (List.length o) false 1 (rowL o))), (13, (AV.ptr 13 [])), (14, (AV.i f)), (75, (AV.v (Value.bool true)))] [(13, (Blk.c (W.ksA false c)))] [13]))))) ∧
 ((f != (0 : Int)) = false →
 ((true = true →
  (Fun W.C W.P 14 [(W.ksA false c)] [] (AV.sb (W.validB (W.toKs (W.ksA false c)))) [] ∧
   (True ∧
   (((W.validB (W.toKs (W.ksA false c))) = true →
   (Fun W.C W.P 30 [(W.ksA false c)] [] (AV.dat (List.length (W.bytesK (W.toKs (W.ksA false c)))) false 1 (rowL (W.bytesK (W.toKs (W.ksA false c))))) [] ∧
    ((∀ (i : Nat), ((i < (List.length (W.bytesK (W.toKs (W.ksA false c))))) → (((0 : Int) ≤ (((List.getD (W.bytesK (W.toKs (W.ksA false c))) i 0) : Nat) : Int)) ∧ ((((List.getD (W.bytesK (W.toKs (W.ksA false c))) i 0) : Nat) : Int) < (256 : Int))))) ∧
    ((∀ (i : Nat), ((i < (List.length o)) → (((0 : Int) ≤ (((List.getD o i 0) : Nat) : Int)) ∧ ((((List.getD o i 0) : Nat) : Int) < (256 : Int))))) ∧
    (Φ Ex.ret (St.mk [(6, (AV.sb ((ByteArray.toList (bytesOf (List.length (W.bytesK (W.toKs (W.ksA false c)))) (rowL (W.bytesK (W.toKs (W.ksA false c)))))) == (ByteArray.toList (bytesOf (List.length o) (rowL o)))))), (7, (AV.sb true)), (12, (AV.dat (List.length o) false 1 (rowL o))), (13, (AV.ptr 13 [])), (14, (AV.i f)), (75, (AV.v (Value.bool false)))] [(13, (Blk.c (W.ksA false c)))] [13])))))) ∧
   ((W.validB (W.toKs (W.ksA false c))) = false →
   (Φ Ex.ret (St.mk [(6, (AV.v (Value.bool false))), (7, (AV.sb true)), (12, (AV.dat (List.length o) false 1 (rowL o))), (13, (AV.ptr 13 [])), (14, (AV.i f)), (75, (AV.v (Value.bool false)))] [(13, (Blk.c (W.ksA false c)))] [13]))))))) ∧
  (true = false →
  (Φ Ex.ret (St.mk [(6, (AV.v (Value.bool false))), (7, (AV.sb true)), (12, (AV.dat (List.length o) false 1 (rowL o))), (13, (AV.ptr 13 [])), (14, (AV.i f)), (75, (AV.v (Value.bool false)))] [(13, (Blk.c (W.ksA false c)))] [13])))))) := by kernel_rfl
theorem shr_nat8 (x : Nat) : bShr IntKind.i64 (x : Int) 8 = ((x / 256 : Nat) : Int) := by
  unfold bShr
  rw [show min ((8 : Int).toNat) IntKind.i64.bits = 8 by rfl, Int.fdiv_eq_ediv_of_nonneg _ (Int.le_of_lt (Int.pow_pos (by decide)))]
  norm_cast
theorem cvB_at {c : Cv} {m : Nat} (hm : m < 32) : (cvB c).getD (3 + m) 0 = c.k m := by
  unfold cvB
  rw [getD_append, if_neg (by simp), show 3 + m - [(IntKind.wrap .u8 c.d).toNat, (IntKind.wrap .u8 (bShr .i64 c.a 8)).toNat, (IntKind.wrap .u8 c.a).toNat].length = m by simp]
  simp [List.getD_eq_getElem?_getD, hm]
theorem bytesK_at : ∀ {l : List Cv} {j i : Nat}, j < l.length → i < 35 → (bytesK l).getD (35 * j + i) 0 = (cvB (cAt l j)).getD i 0
  | [], _, _, h, _ => absurd h (Nat.not_lt_zero _)
  | c :: r, 0, i, _, hi => by
    show (cvB c ++ bytesK r).getD _ 0 = (cvB c).getD i 0
    rw [getD_append, cvB_len, if_pos (by omega)]
    congr 1; omega
  | c :: r, j + 1, i, h, hi => by
    show (cvB c ++ bytesK r).getD _ 0 = (cvB (cAt r j)).getD i 0
    rw [getD_append, cvB_len, if_neg (by omega), show 35 * (j + 1) + i - 35 = 35 * j + i by omega]
    exact bytesK_at (by simpa using h) hi
theorem cv_vals {c : Cv} (h : CvOK c) : (((cvB c).getD 0 0 : Nat) : Int) = c.d ∧ ((256 * (cvB c).getD 1 0 + (cvB c).getD 2 0 : Nat) : Int) = c.a := by
  have h5 := (cv_facts h).2.2.2.2
  obtain ⟨h0, h1, h2, _, _⟩ := h
  obtain ⟨n, hn⟩ := Int.eq_ofNat_of_zero_le h0
  obtain ⟨m, hm⟩ := Int.eq_ofNat_of_zero_le h2
  have e0 : (cvB c).getD 0 0 = n := by
    show (IntKind.wrap .u8 c.d).toNat = n
    rw [hn, wrap_u8]; omega
  have e1 : (cvB c).getD 1 0 = m / 256 := by
    show (IntKind.wrap .u8 (bShr .i64 c.a 8)).toNat = m / 256
    rw [hm, shr_nat8, wrap_u8]; omega
  have e2 : (cvB c).getD 2 0 = m % 256 := by
    show (IntKind.wrap .u8 c.a).toNat = m % 256
    rw [hm, wrap_u8]; omega
  rw [e0, e1, e2]
  omega
def EqC (c e : Cv) : Prop := c.d = e.d ∧ c.a = e.a ∧ ∀ i, i < 32 → c.k i = e.k i
theorem cAt_items {b : List Nat} {n j : Nat} (h : j < n) : cAt (itemsN b n) j = itemAt b j := by
  unfold cAt itemsN
  simp [List.getD_eq_getElem?_getD, h]
theorem item_bytes {l : List Cv} (hv : VL l) {j : Nat} (hj : j < l.length) : EqC (itemAt (bytesK l) j) (cAt l j) := by
  obtain ⟨v1, v2⟩ := cv_vals (hv.1 j hj)
  refine ⟨?_, ?_, fun i hi => ?_⟩
  · show (((bytesK l).getD (35 * j + 0) 0 : Nat) : Int) = _
    rw [bytesK_at hj (by decide)]; exact v1
  · show ((256 * (bytesK l).getD (35 * j + 1) 0 + (bytesK l).getD (35 * j + 2) 0 : Nat) : Int) = _
    rw [bytesK_at hj (by decide), bytesK_at hj (by decide)]; exact v2
  · show (bytesK l).getD (35 * j + (3 + i)) 0 = _
    rw [bytesK_at hj (by omega), cvB_at hi]
theorem VL.eqv {l q : List Cv} (h : VL l) (hn : q.length = l.length) (he : ∀ j, j < l.length → EqC (cAt q j) (cAt l j)) : VL q := by
  refine ⟨fun j hj => ?_, fun i j hij hj => ?_⟩
  · obtain ⟨e1, e2, e3⟩ := he j (by omega)
    obtain ⟨h1, h2, h3, h4, h5⟩ := h.1 j (by omega)
    refine ⟨by rw [e1]; exact h1, by rw [e1]; exact h2, by rw [e2]; exact h3, by rw [e1, e2]; exact h4, fun i hi => by rw [e3 i hi]; exact h5 i hi⟩
  · obtain ⟨e1, e2, _⟩ := he j (by omega)
    obtain ⟨g1, g2, _⟩ := he i (by omega)
    have h2 := h.2 i j hij (by omega)
    unfold hiC loC at h2 ⊢
    rw [e1, e2, g1, g2]
    exact h2
theorem items_eq {l : List Cv} (hv : VL l) : (itemsN (bytesK l) l.length).length = l.length ∧ ∀ j, j < l.length → EqC (cAt (itemsN (bytesK l) l.length) j) (cAt l j) :=
  ⟨items_len _ _, fun j hj => by rw [cAt_items hj]; exact item_bytes hv hj⟩
theorem pars_bytes {l : List Cv} (hv : VL l) : parsL (bytesK l) = itemsN (bytesK l) l.length ∧ parsE (bytesK l) = 0 := by
  obtain ⟨h1, h2⟩ := items_eq hv
  have hn : (bytesK l).length / 35 = l.length := by rw [bytesK_len]; omega
  have hc : (bytesK l).length % 35 = 0 ∧ validB (itemsN (bytesK l) ((bytesK l).length / 35)) = true := by
    rw [hn]
    exact ⟨by rw [bytesK_len]; omega, (hv.eqv h1 h2).valid⟩
  unfold parsL parsE
  rw [if_pos hc, if_pos hc, hn]
  exact ⟨rfl, rfl⟩
theorem cvB_item {x : Nat → Nat} (h : ∀ i, i < 35 → x i < 256) : cvB (itemD x) = (List.range 35).map x := by
  have h0 := h 0 (by decide)
  have h1 := h 1 (by decide)
  have h2 := h 2 (by decide)
  rw [show 35 = 3 + 32 by rfl, List.range_add, List.map_append, List.map_map]
  show [(IntKind.wrap .u8 ((x 0 : Nat) : Int)).toNat, (IntKind.wrap .u8 (bShr .i64 ((256 * x 1 + x 2 : Nat) : Int) 8)).toNat, (IntKind.wrap .u8 ((256 * x 1 + x 2 : Nat) : Int)).toNat] ++ _ = [x 0, x 1, x 2] ++ _
  rw [shr_nat8, wrap_u8, wrap_u8, wrap_u8, show (((x 0 % 256 : Nat) : Int)).toNat = x 0 by omega, show ((((256 * x 1 + x 2) / 256 % 256 : Nat) : Int)).toNat = x 1 by omega, show ((((256 * x 1 + x 2) % 256 : Nat) : Int)).toNat = x 2 by omega]
  rfl
theorem drop_take {b : List Nat} {j n : Nat} (h : j + n ≤ b.length) : (List.range n).map (fun i => b.getD (j + i) 0) = (b.drop j).take n := by
  apply List.ext_getElem
  · simp; omega
  · intro i h1 h2
    have h3 : i < n := by simpa using h1
    simp [List.getD_eq_getElem?_getD, List.getElem?_eq_getElem (show j + i < b.length by omega)]
theorem bytes_items {b : List Nat} (hs : Small b) : ∀ j, 35 * j ≤ b.length → bytesK (itemsN b j) = b.take (35 * j)
  | 0, _ => rfl
  | j + 1, h => by
    rw [items_succ, show 35 * (j + 1) = 35 * j + 35 by omega, List.take_add, ← bytes_items hs j (by omega), ← drop_take (by omega)]
    show bytesK (itemsN b j ++ [itemAt b j]) = _
    unfold bytesK
    rw [List.flatMap_append, List.flatMap_singleton]
    congr 1
    exact cvB_item (x := fun i => b.getD (35 * j + i) 0) fun i _ => getD_small hs _
theorem bytes_pars {b : List Nat} (hs : Small b) (h : b.length % 35 = 0) : bytesK (itemsN b (b.length / 35)) = b := by
  rw [bytes_items hs _ (by omega), show 35 * (b.length / 35) = b.length by omega, List.take_length]
theorem all_in : ∀ (n : Nat) {D : List Int}, (∀ k : Nat, k < n → ((k : Nat) : Int) ∈ D) → n ≤ D.length
  | 0, _, _ => Nat.zero_le _
  | n + 1, D, h => by
    have hm := h n (Nat.lt_succ_self n)
    have h2 := all_in n (D := D.erase (n : Int)) fun k hk => (List.mem_erase_of_ne (by omega)).2 (h k (by omega))
    rw [List.length_erase_of_mem hm] at h2
    have : 0 < D.length := List.length_pos_of_mem hm
    omega
theorem KOK.some {s : Nat → Nat} {D : List Int} {l : List Cv} (h : KOK s D l) (hD : D.length ≤ 12) : 0 < l.length := by
  refine Classical.byContradiction fun hn => ?_
  have hl : ∀ x, hasB l x = false := fun x => by
    rw [Bool.eq_false_iff]
    intro hx
    obtain ⟨i, hi, _⟩ := (has_iff h.v).1 hx
    omega
  have := all_in 13 (D := D) fun k hk => by
    have h1 := hl (k : Int)
    rw [h.B] at h1
    have h2 : inR (k : Int) = true := by simp [inR]; omega
    rw [h2, Bool.true_and] at h1
    simpa [inX] using h1
  omega
theorem gone_len (ids : List Nat) : (goneD ids).length ≤ 12 := by unfold goneD; simp; omega
def oddN (o : List Nat) (w : Nat → Nat) : List Nat := (List.range o.length).map fun j => if j = 0 + w 0 % o.length then (bXor .u8 ((o.getD (0 + w 0 % o.length) 0 : Nat) : Int) (IntKind.wrap .u8 ((w 1 : Nat) : Int))).toNat else o.getD j 0
theorem odd_len (o : List Nat) (w : Nat → Nat) : (oddN o w).length = o.length := by unfold oddN; simp
theorem odd_small {o : List Nat} (h : Small o) (w : Nat → Nat) : Small (oddN o w) := by
  intro x hx
  obtain ⟨j, hj, rfl⟩ := List.mem_map.1 hx
  show (if j = 0 + w 0 % o.length then _ else _) < 256
  split
  · exact (wrap8_nat _).2
  · exact getD_small h j
theorem odd_at {o : List Nat} {w : Nat → Nat} {j : Nat} (hj : j < o.length) : (if (0 + j) = (0 + w 0 % o.length) then (AV.v (Value.int IntKind.u8 (bXor IntKind.u8 ((o.getD (0 + w 0 % o.length) 0 : Nat) : Int) (IntKind.wrap IntKind.u8 ((w 1 : Nat) : Int))))) else (AV.v (Value.int IntKind.u8 ((o.getD (0 + j) 0 : Nat) : Int)))) = rowL (oddN o w) j := by
  show _ = u8 ((oddN o w).getD j 0)
  unfold oddN
  rw [Nat.zero_add j]
  simp only [List.getD_eq_getElem?_getD, List.getElem?_map, List.getElem?_range hj, Option.map_some, Option.getD_some]
  by_cases h : j = 0 + w 0 % o.length
  · rw [if_pos h, if_pos h]
    exact congrArg (fun z => AV.v (Value.int .u8 z)) (wrap8_nat _).1.symm
  · rw [if_neg h, if_neg h]
set_option maxRecDepth 1000000 in
theorem lkb_fun (s : Nat) (hs : s < 256) (ex : Bool) (ids : List Nat) (hi : ∀ i, i < ids.length → ids.getD i 0 < 65536) (w : Nat → Nat) (hw : ∀ i, i < 3 → w i < 65536) : Fun C P F_lkb [u8 s, u16A ex ids, w16 3 w] [] (.sb true) [] := by
  refine in_lkb (W := w_lkb) rfl 0 (by simp) rfl (fun id h => absurd rfl h) fun D => ?_
  refine of_eq (lkb_A s ex ids w 0 _) ?_
  rw [u16L_eq]
  have hk := KOK.made s ids
  have hmade := made_fun s hs ex ids hi
  obtain ⟨k, ek⟩ : ∃ k, k = KV (seedK s) (goneD ids) := ⟨_, rfl⟩
  rw [← ek] at hk hmade ⊢
  clear ek
  have kn := hk.n
  have kv := hk.v
  have k0 := hk.some (gone_len ids)
  obtain ⟨p1, p2⟩ := pars_bytes kv
  obtain ⟨i1, i2⟩ := items_eq kv
  have hblen := bytesK_len k
  have hbs := kv.small
  have hkb := kbytes_fun false k (by omega)
  rw [toKs_A]
  obtain ⟨b, eb⟩ : ∃ b, b = bytesK k := ⟨_, rfl⟩
  rw [← eb] at p1 p2 i1 i2 hblen hbs hkb ⊢
  clear eb
  refine ⟨sanity_fun, trivial, hmade, TT, hkb, cut_ok (S2 := S_lkb4 w k b) (ent_of [(5, 5), (8, 8)] rfl (tm_cons rfl (sm_ptr rfl) (tm_cons rfl (sm_same rfl) (tm_cons rfl (sm_ptr rfl) (tm_cons rfl (sm_same rfl) tm_nil)))) (hp_cons rfl rfl (sm_same rfl) (hp_cons rfl rfl (sm_same rfl) hp_nil))) ?_⟩
  refine of_eq (lkb_C4 w k b 0 _) ?_
  rw [bytesL_row]
  have hp := parse_fun false b hbs (by omega)
  rw [p1, p2] at hp ⊢
  refine ⟨hp, TT, cut_ok (S2 := S_lkb5 w k b) (ent_of [(5, 5), (8, 8), (10, 10)] rfl (tm_cons rfl (sm_ptr rfl) (tm_cons rfl (sm_same rfl) (tm_cons rfl (sm_ptr rfl) (tm_cons rfl (sm_same rfl) (tm_cons rfl (sm_ptr rfl) (tm_cons rfl (sm_same rfl) tm_nil)))))) (hp_cons rfl rfl (sm_same rfl) (hp_cons rfl rfl (sm_same rfl) (hp_cons rfl rfl (sm_st (sms_cons (.inr ⟨i1, fun h => h, .inr rfl, fun i hi => (let e := i2 i (by omega); .inr ⟨.inl ⟨rfl, by rw [e.1]⟩, .inl ⟨rfl, by rw [e.2.1]⟩, .inr ⟨rfl, rfl, fun j hj => .inl (congrArg u8 (e.2.2 j hj))⟩, trivial⟩)⟩) sms_nil)) hp_nil)))) ?_⟩
  refine of_eq (lkb_C5 w k b 0 _) ⟨fun h => (by cases h), fun _ => ?_⟩
  have hss := rsame_fun false k false k (by omega)
  rw [toKs_A, sameL_refl]
  rw [sameL_refl] at hss
  refine ⟨hss, trivial, nf_then rfl ⟨(by first | omega | decide | (unfold I64; omega)), bne_then (by omega) ⟨by omega, cut_ok (S2 := S_lkb8 w b) (ent_of [(5, 5), (45, 12)] rfl (tm_cons rfl (sm_ptr rfl) (tm_cons rfl (sm_same rfl) (tm_cons rfl (sm_sl rfl (Nat.zero_add _) (by omega) (by omega) (by simp)) tm_nil))) (hp_cons rfl rfl (sm_same rfl) (hp_cons rfl rfl (sm_arr' (Nat.zero_add _) fun j hj => ?_) hp_nil))) ?_⟩⟩⟩
  · have h := cat0 (f := fun _ => (AV.v (Value.tuple (List.toArray [])))) (g := rowL b) (i := j)
    rwa [Nat.zero_add] at h
  refine of_eq (lkb_C8 w b 0 _) ?_
  have h0 := hw 0 (by decide)
  have h1 := hw 1 (by decide)
  have h2 := hw 2 (by decide)
  have hpos : 0 < b.length := by omega
  have hm := Nat.mod_lt (w 0) hpos
  have ol := odd_len b w
  have os := odd_small hbs w
  refine ⟨(by first | omega | decide | (unfold I64; omega)), (by first | omega | decide | (unfold I64; omega)), (by first | omega | decide | (unfold I64; omega)), ⟨by omega, by omega⟩, (by first | omega | decide | (unfold I64; omega)), ⟨by omega, by omega⟩, cut_ok (S2 := S_lkb9 w (oddN b w)) (Ent.trans (ent_freeze _ [12]) (ent_of [(5, 5)] rfl (tm_cons rfl (sm_ptr rfl) (tm_cons rfl (sm_same rfl) (tm_cons rfl (sm_dat' ol.symm (by simp) fun j hj => odd_at hj) tm_nil))) (hp_cons rfl rfl (sm_same rfl) hp_nil))) ?_⟩
  obtain ⟨o, eo⟩ : ∃ o, o = oddN b w := ⟨_, rfl⟩
  rw [← eo] at ol os ⊢
  clear eo
  refine of_eq (lkb_C9 w o 0 _) ?_
  have hm4 := Nat.mod_lt (w 2) (show 0 < 4 by decide)
  refine ⟨(by first | omega | decide | (unfold I64; omega)), by decide, (by first | omega | decide | (unfold I64; omega)), (by first | omega | decide | (unfold I64; omega)), ⟨(by first | omega | decide | (unfold I64; omega)), by omega, by omega⟩, cut_ok (S2 := S_lkb10 (o.take (o.length - w 2 % 4))) (ent_of [] rfl (tm_cons rfl (sm_same rfl) (tm_cons rfl (sm_dat' (by rw [List.length_take]; omega) (by simp) fun j hj => ?_) tm_nil)) hp_nil) ?_⟩
  · show AV.v (Value.int .u8 _) = AV.v (Value.int .u8 _)
    rw [Nat.zero_add, List.getD_eq_getElem?_getD, List.getD_eq_getElem?_getD, List.getElem?_take_of_lt (by omega)]
  have os2 : Small (o.take (o.length - w 2 % 4)) := fun x hx => os x (List.mem_of_mem_take hx)
  have ol2 : (o.take (o.length - w 2 % 4)).length ≤ b.length := by rw [List.length_take]; omega
  obtain ⟨q, eq⟩ : ∃ q, q = o.take (o.length - w 2 % 4) := ⟨_, rfl⟩
  rw [← eq] at os2 ol2 ⊢
  clear eq
  refine of_eq (lkb_C10 q 0 _) ?_
  rw [bytesL_row]
  refine ⟨parse_fun false q os2 (by omega), TT, cut_ok (S2 := S_lkb11 q (parsL q) (parsE q)) (ent_of [(13, 13)] rfl (tm_cons rfl (sm_same rfl) (tm_cons rfl (sm_same rfl) (tm_cons rfl (sm_ptr rfl) (tm_cons rfl (sm_same rfl) tm_nil)))) (hp_cons rfl rfl (sm_same rfl) hp_nil)) ?_⟩
  refine of_eq (lkb_C11 q (parsL q) (parsE q) 0 _) ?_
  have pl := pars_len q
  by_cases hc : q.length % 35 = 0 ∧ validB (itemsN q (q.length / 35)) = true
  · have e1 : parsE q = 0 := by unfold parsE; rw [if_pos hc]
    have e2 : parsL q = itemsN q (q.length / 35) := by unfold parsL; rw [if_pos hc]
    have e3 := bytes_pars os2 hc.1
    rw [← e2] at e3
    have hq : ∀ i, i < q.length → (0 : Int) ≤ ((q.getD i 0 : Nat) : Int) ∧ ((q.getD i 0 : Nat) : Int) < 256 := fun i _ => by
      have := getD_small os2 i
      omega
    have hv := rvalid_fun false (parsL q) (by omega)
    have hv2 : validB (parsL q) = true := by rw [e2]; exact hc.2
    have hk2 := kbytes_fun false (parsL q) (by omega)
    rw [toKs_A, e3, hv2, e1]
    rw [hv2] at hv
    rw [e3] at hk2
    have hfin : (ByteArray.toList (bytesOf q.length (rowL q)) == ByteArray.toList (bytesOf q.length (rowL q))) = true := beq_self_eq_true _
    rw [hfin]
    exact ff_then rfl (tt_then rfl ⟨hv, trivial, tt_then rfl ⟨hk2, hq, hq, post_tmp rfl (sm_same rfl)⟩⟩)
  · have e1 : parsE q = 3 := by unfold parsE; rw [if_neg hc]
    have e2 : parsL q = [] := by unfold parsL; rw [if_neg hc]
    rw [e1, e2]
    exact tt_then rfl (tt_then rfl (tt_then rfl (post_tmp rfl (sm_same rfl))))
theorem lkb_law {x0 x1 x2 : AV} (h0 : Typed C.tt 6 5 x0) (h1 : Typed C.tt 6 22 x1) (h2 : Typed C.tt 6 68 x2) : Fun C P F_lkb [x0, x1, x2] [] (.sb true) [] := by
  obtain ⟨s, rfl, hs⟩ := typed_u8 rfl h0
  obtain ⟨ids, ex, hi, _, s1⟩ := typed_ids h1
  obtain ⟨w, hw, s2⟩ := typed_w16 (m := 3) rfl h2
  exact (lkb_fun s hs ex ids hi w hw).sim ⟨sm_same rfl, s1, s2, trivial⟩ trivial
end Go.Bu.W

