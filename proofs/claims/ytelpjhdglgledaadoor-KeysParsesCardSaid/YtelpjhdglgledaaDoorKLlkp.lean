/- Arbitrary bytes are read as by the reference, and so is whether they are valid. -/
import Derived.Test.YtelpjhdglgledaaDoorK20
namespace Go.Bu.W
open Sp
def w_lkp : Way := wayU [0, 1, 4, 5, 6, 7, 8, 9, 10, 11, 12, 13, 22] 76 [4,7,8,10]
def S_lkp4 (b : List Nat) (ex : Bool) (l : List Cv) (ey : Bool) : St := { tm := [(0, dB ex b), (1, kA ey l), (5, .sb true)], hp := [], seen := [] }
def S_lkp7 (l : List Cv) (ey : Bool) (p : List Cv) (e : Int) : St := { tm := [(5, .sb true), (6, .ptr 6 []), (7, .ptr 7 []), (8, .i e), (9, .ptr 9 [])], hp := [(6, .c (ksA ey l)), (7, .c (ksA false p)), (9, .c (.st [ksA false p, .i e]))], seen := [6, 7, 9] }
def S_lkp8 (l : List Cv) (ey : Bool) (p : List Cv) (e : Int) (c : List Nat) : St := { tm := [(5, .sb true), (6, .ptr 6 []), (7, .ptr 7 []), (8, .i e), (9, .ptr 9 []), (10, dB false c)], hp := [(6, .c (ksA ey l)), (7, .c (ksA false p)), (9, .c (.st [ksA false p, .i e]))], seen := [6, 7, 9] }
def S_lkp10 (l : List Cv) (ey : Bool) (p : List Cv) (e : Int) (r : List Cv) (f : Int) : St := { tm := [(5, .sb true), (6, .ptr 6 []), (7, .ptr 7 []), (8, .i e), (9, .ptr 9 []), (11, .ptr 11 []), (12, .i f), (13, .ptr 13 [])], hp := [(6, .c (ksA ey l)), (7, .c (ksA false p)), (9, .c (.st [ksA false p, .i e])), (11, .c (ksA false r)), (13, .c (.st [ksA false r, .i f]))], seen := [6, 7, 9, 11, 13] }

theorem lkp_A (b : List Nat) (ex : Bool) (l : List Cv) (ey : Bool) {D : Dom} (K : Nat) (Φ : Ex → St → Prop) :
  (Holds C P 76 D K Φ (vc C w_lkp b_lkp [] (start [dB ex b, kA ey l] []) lf)) =
  (Fun W.C W.P 11 [] [] (AV.sb true) [] ∧
 (True ∧
 (((decide ((((List.length b) : Nat) : Int) > (150 : Int))) = true →
 (Φ Ex.ret (St.mk [(0, (AV.dat (List.length b) ex 1 (rowL b))), (1, (W.kA ey l)), (4, (AV.sb true)), (5, (AV.sb true)), (22, (AV.v (Value.bool true)))] [] []))) ∧
 ((decide ((((List.length b) : Nat) : Int) > (150 : Int))) = false →
 (((decide ((((List.length l) : Nat) : Int) > (4 : Int))) = true →
  (Φ Ex.ret (St.mk [(0, (AV.dat (List.length b) ex 1 (rowL b))), (1, (W.kA ey l)), (4, (AV.sb true)), (5, (AV.sb true)), (22, (AV.v (Value.bool true)))] [] []))) ∧
  ((decide ((((List.length l) : Nat) : Int) > (4 : Int))) = false →
  (∃ (S2 : St), Ent W.C 76 D K (St.mk [(0, (AV.dat (List.length b) ex 1 (rowL b))), (1, (W.kA ey l)), (4, (AV.v (Value.bool false))), (5, (AV.sb true)), (22, (AV.v (Value.bool false)))] [] []) S2 ∧ Holds W.C W.P 76 D K Φ (cutAt W.C w_lkp b_lkp [1, 1, 1, 0] S2 (after W.C w_lkp b_lkp [1, 1, 1, 0] [] lf))))))))) := by kernel_rfl
theorem lkp_C4 (b : List Nat) (ex : Bool) (l : List Cv) (ey : Bool) {D : Dom} (K : Nat) (Φ : Ex → St → Prop) :
  (Holds C P 76 D K Φ (cutAt C w_lkp b_lkp [1, 1, 1, 0] (S_lkp4 b ex l ey) (after C w_lkp b_lkp [1, 1, 1, 0] [] lf))) =
  ((((true = true) ∧ (true = true)) ∧ True) ∧
 (Fun W.C W.P 32 [(AV.dat (List.length b) ex 1 (rowL b))] [] (AV.tup [(W.ksA false (W.parsL (bytesL (List.length b) (rowL b)))), (AV.i (W.parsE (bytesL (List.length b) (rowL b))))]) [] ∧
 ((((true = true) ∧ (true = true)) ∧ True) ∧
 (Fun W.C W.P 33 [(AV.dat (List.length b) ex 1 (rowL b))] [] (AV.st [(W.ksA false (W.parsL (bytesL (List.length b) (rowL b)))), (AV.i (W.parsE (bytesL (List.length b) (rowL b))))]) [] ∧
 (((((true = true) ∧ (true = true)) ∧ True) ∧ (((true = true) ∧ (true = true)) ∧ True)) ∧
 (∃ (S2 : St), Ent W.C 76 D K (St.mk [(0, (AV.dat (List.length b) ex 1 (rowL b))), (1, (W.kA ey l)), (5, (AV.sb true)), (6, (AV.ptr 6 [])), (7, (AV.ptr 7 [])), (8, (AV.i (W.parsE (bytesL (List.length b) (rowL b))))), (9, (AV.ptr 9 []))] [(6, (Blk.c (W.ksA ey l))), (7, (Blk.c (W.ksA false (W.parsL (bytesL (List.length b) (rowL b)))))), (9, (Blk.c (AV.st [(W.ksA false (W.parsL (bytesL (List.length b) (rowL b)))), (AV.i (W.parsE (bytesL (List.length b) (rowL b))))])))] [9, 7, 6]) S2 ∧ Holds W.C W.P 76 D K Φ (cutAt W.C w_lkp b_lkp [1, 1, 1, 1, 1, 1, 0] S2 (after W.C w_lkp b_lkp [1, 1, 1, 1, 1, 1, 0] [] lf)))))))) := by kernel_rfl
theorem lkp_C7 (l : List Cv) (ey : Bool) (p : List Cv) (e : Int) {D : Dom} (K : Nat) (Φ : Ex → St → Prop) :
  (Holds C P 76 D K Φ (cutAt C w_lkp b_lkp [1, 1, 1, 1, 1, 1, 0] (S_lkp7 l ey p e) (after C w_lkp b_lkp [1, 1, 1, 1, 1, 1, 0] [] lf))) =
  (Fun W.C W.P 31 [(W.ksA ey l)] [] (AV.dat (List.length (W.bytesK (W.toKs (W.ksA ey l)))) false 1 (rowL (W.bytesK (W.toKs (W.ksA ey l))))) [] ∧
 ((((0 + (List.length (W.bytesK (W.toKs (W.ksA ey l))))) * 1) ≤ 140737488355328) ∧
 (∃ (S2 : St), Ent W.C 76 D K (St.mk [(5, (AV.sb true)), (6, (AV.ptr 6 [])), (7, (AV.ptr 7 [])), (8, (AV.i e)), (9, (AV.ptr 9 [])), (10, (AV.sl 36 [] 0 (0 + (List.length (W.bytesK (W.toKs (W.ksA ey l))))) (0 + (List.length (W.bytesK (W.toKs (W.ksA ey l))))) false 1))] [(6, (Blk.c (W.ksA ey l))), (7, (Blk.c (W.ksA false p))), (9, (Blk.c (AV.st [(W.ksA false p), (AV.i e)]))), (36, (Blk.c (AV.arr (0 + (List.length (W.bytesK (W.toKs (W.ksA ey l))))) 1 (cat 0 (fun (i : Nat) => (AV.v (Value.tuple (List.toArray [])))) (rowL (W.bytesK (W.toKs (W.ksA ey l))))))))] [36, 33, 6, 7, 9]) S2 ∧ Holds W.C W.P 76 D K Φ (cutAt W.C w_lkp b_lkp [1, 1, 1, 1, 1, 1, 1, 0] S2 (after W.C w_lkp b_lkp [1, 1, 1, 1, 1, 1, 1, 0] [] lf))))) := by kernel_rfl
theorem lkp_C8 (l : List Cv) (ey : Bool) (p : List Cv) (e : Int) (c : List Nat) {D : Dom} (K : Nat) (Φ : Ex → St → Prop) :
  (Holds C P 76 D K Φ (cutAt C w_lkp b_lkp [1, 1, 1, 1, 1, 1, 1, 0] (S_lkp8 l ey p e c) (after C w_lkp b_lkp [1, 1, 1, 1, 1, 1, 1, 0] [] lf))) =
  (Fun W.C W.P 32 [(AV.dat (List.length c) false 1 (rowL c))] [] (AV.tup [(W.ksA false (W.parsL (bytesL (List.length c) (rowL c)))), (AV.i (W.parsE (bytesL (List.length c) (rowL c))))]) [] ∧
 ((((true = true) ∧ (true = true)) ∧ True) ∧
 (Fun W.C W.P 33 [(AV.dat (List.length c) false 1 (rowL c))] [] (AV.st [(W.ksA false (W.parsL (bytesL (List.length c) (rowL c)))), (AV.i (W.parsE (bytesL (List.length c) (rowL c))))]) [] ∧
 (((((true = true) ∧ (true = true)) ∧ True) ∧ (((true = true) ∧ (true = true)) ∧ True)) ∧
 (∃ (S2 : St), Ent W.C 76 D K (St.mk [(5, (AV.sb true)), (6, (AV.ptr 6 [])), (7, (AV.ptr 7 [])), (8, (AV.i e)), (9, (AV.ptr 9 [])), (10, (AV.dat (List.length c) false 1 (rowL c))), (11, (AV.ptr 11 [])), (12, (AV.i (W.parsE (bytesL (List.length c) (rowL c))))), (13, (AV.ptr 13 []))] [(6, (Blk.c (W.ksA ey l))), (7, (Blk.c (W.ksA false p))), (9, (Blk.c (AV.st [(W.ksA false p), (AV.i e)]))), (11, (Blk.c (W.ksA false (W.parsL (bytesL (List.length c) (rowL c)))))), (13, (Blk.c (AV.st [(W.ksA false (W.parsL (bytesL (List.length c) (rowL c)))), (AV.i (W.parsE (bytesL (List.length c) (rowL c))))])))] [13, 11, 6, 7, 9]) S2 ∧ Holds W.C W.P 76 D K Φ (cutAt W.C w_lkp b_lkp [1, 1, 1, 1, 1, 1, 1, 1, 1, 0] S2 (after W.C w_lkp b_lkp [1, 1, 1, 1, 1, 1, 1, 1, 1, 0] [] lf))))))) := by kernel_rfl
theorem lkp_C10 (l : List Cv) (ey : Bool) (p : List Cv) (e : Int) (r : List Cv) (f : Int) {D : Dom} (K : Nat) (Φ : Ex → St → Prop) :
  (Holds C P 76 D K Φ (cutAt C w_lkp b_lkp [1, 1, 1, 1, 1, 1, 1, 1, 1, 0] (S_lkp10 l ey p e r f) (after C w_lkp b_lkp [1, 1, 1, 1, 1, 1, 1, 1, 1, 0] [] lf))) =
  ((true = true →
 (((e == e) = true →
  (Fun W.C W.P 19 [(W.ksA false p), (W.ksA false p)] [] (AV.sb (W.sameL (W.toKs (W.ksA false p)) (W.toKs (W.ksA false p)))) [] ∧
   (True ∧
   (((W.sameL (W.toKs (W.ksA false p)) (W.toKs (W.ksA false p))) = true →
   (((f == f) = true →
    (Fun W.C W.P 19 [(W.ksA false r), (W.ksA false r)] [] (AV.sb (W.sameL (W.toKs (W.ksA false r)) (W.toKs (W.ksA false r)))) [] ∧
     (True ∧
     (((W.sameL (W.toKs (W.ksA false r)) (W.toKs (W.ksA false r))) = true →
     (Fun W.C W.P 34 [(W.ksA ey l)] [] (AV.sb (W.validB (W.toKs (W.ksA ey l)))) [] ∧
      (True ∧
      (Fun W.C W.P 14 [(W.ksA ey l)] [] (AV.sb (W.validB (W.toKs (W.ksA ey l)))) [] ∧
      (True ∧
      (Φ Ex.ret (St.mk [(4, (AV.sb ((W.validB (W.toKs (W.ksA ey l))) == (W.validB (W.toKs (W.ksA ey l)))))), (5, (AV.sb true)), (6, (AV.ptr 6 [])), (7, (AV.ptr 7 [])), (8, (AV.i e)), (9, (AV.ptr 9 [])), (11, (AV.ptr 11 [])), (12, (AV.i f)), (13, (AV.ptr 13 []))] [(6, (Blk.c (W.ksA ey l))), (7, (Blk.c (W.ksA false p))), (9, (Blk.c (AV.st [(W.ksA false p), (AV.i e)]))), (11, (Blk.c (W.ksA false r))), (13, (Blk.c (AV.st [(W.ksA false r), (AV.i f)])))] [6, 7, 9, 11, 13]))))))) ∧
     ((W.sameL (W.toKs (W.ksA false r)) (W.toKs (W.ksA false r))) = false →
     (Φ Ex.ret (St.mk [(4, (AV.v (Value.bool false))), (5, (AV.sb true)), (6, (AV.ptr 6 [])), (7, (AV.ptr 7 [])), (8, (AV.i e)), (9, (AV.ptr 9 [])), (11, (AV.ptr 11 [])), (12, (AV.i f)), (13, (AV.ptr 13 []))] [(6, (Blk.c (W.ksA ey l))), (7, (Blk.c (W.ksA false p))), (9, (Blk.c (AV.st [(W.ksA false p), (AV.i e)]))), (11, (Blk.c (W.ksA false r))), (13, (Blk.c (AV.st [(W.ksA false r), (AV.i f)])))] [6, 7, 9, 11, 13]))))))) ∧
    ((f == f) = false →
    (Φ Ex.ret (St.mk [(4, (AV.v (Value.bool false))), (5, (AV.sb true)), (6, (AV.ptr 6 [])), (7, (AV.ptr 7 [])), (8, (AV.i e)), (9, (AV.ptr 9 [])), (11, (AV.ptr 11 [])), (12, (AV.i f)), (13, (AV.ptr 13 []))] [(6, (Blk.c (W.ksA ey l))), (7, (Blk.c (W.ksA false p))), (9, (Blk.c (AV.st [(W.ksA false p), (AV.i e)]))), (11, (Blk.c (W.ksA false r))), (13, (Blk.c (AV.st [(W.ksA false r), (AV.i f)])))] [6, 7, 9, 11, 13]))))) ∧
   ((W.sameL (W.toKs (W.ksA false p)) (W.toKs (W.ksA false p))) = false →
   (Φ Ex.ret (St.mk [(4, (AV.v (Value.bool false))), (5, (AV.sb true)), (6, (AV.ptr 6 [])), (7, (AV.ptr 7 [])), (8, (AV.i e)), (9, (AV.ptr 9 [])), (11, (AV.ptr 11 [])), (12, (AV.i f)), (13, (AV.ptr 13 []))] [(6, (Blk.c (W.ksA ey l))), (7, (Blk.c (W.ksA false p))), (9, (Blk.c (AV.st [(W.ksA false p), (AV.i e)]))), (11, (Blk.c (W.ksA false r))), (13, (Blk.c (AV.st [(W.ksA false r), (AV.i f)])))] [6, 7, 9, 11, 13]))))))) ∧
  ((e == e) = false →
  (Φ Ex.ret (St.mk [(4, (AV.v (Value.bool false))), (5, (AV.sb true)), (6, (AV.ptr 6 [])), (7, (AV.ptr 7 [])), (8, (AV.i e)), (9, (AV.ptr 9 [])), (11, (AV.ptr 11 [])), (12, (AV.i f)), (13, (AV.ptr 13 []))] [(6, (Blk.c (W.ksA ey l))), (7, (Blk.c (W.ksA false p))), (9, (Blk.c (AV.st [(W.ksA false p), (AV.i e)]))), (11, (Blk.c (W.ksA false r))), (13, (Blk.c (AV.st [(W.ksA false r), (AV.i f)])))] [6, 7, 9, 11, 13]))))) ∧
 (true = false →
 (Φ Ex.ret (St.mk [(4, (AV.v (Value.bool false))), (5, (AV.sb true)), (6, (AV.ptr 6 [])), (7, (AV.ptr 7 [])), (8, (AV.i e)), (9, (AV.ptr 9 [])), (11, (AV.ptr 11 [])), (12, (AV.i f)), (13, (AV.ptr 13 []))] [(6, (Blk.c (W.ksA ey l))), (7, (Blk.c (W.ksA false p))), (9, (Blk.c (AV.st [(W.ksA false p), (AV.i e)]))), (11, (Blk.c (W.ksA false r))), (13, (Blk.c (AV.st [(W.ksA false r), (AV.i f)])))] [6, 7, 9, 11, 13])))) := by kernel_rfl
theorem bytesK_len (l : List Cv) : (bytesK l).length = 35 * l.length := by
  have h := byt_len l l.length (Nat.le_refl _)
  unfold bytN at h
  rwa [List.take_length] at h
theorem cvB_small {c : Cv} (h : ∀ i, i < 32 → c.k i < 256) : Small (cvB c) := by
  intro x hx
  unfold cvB at hx
  rcases List.mem_append.1 hx with hx | hx
  · rcases List.mem_cons.1 hx with rfl | hx
    · exact (wrap8_nat _).2
    · rcases List.mem_cons.1 hx with rfl | hx
      · exact (wrap8_nat _).2
      · rcases List.mem_cons.1 hx with rfl | hx
        · exact (wrap8_nat _).2
        · cases hx
  · obtain ⟨i, hi, rfl⟩ := List.mem_map.1 hx
    exact h i (List.mem_range.1 hi)
theorem bytesK_small {l : List Cv} (h : ∀ c, c ∈ l → ∀ i, i < 32 → c.k i < 256) : Small (bytesK l) := by
  intro x hx
  obtain ⟨c, hc, hx⟩ := List.mem_flatMap.1 hx
  exact cvB_small (h c hc) x hx
theorem cat0 {f g : Nat → AV} {i : Nat} : cat 0 f g (0 + i) = g i := by
  unfold cat
  rw [if_neg (Nat.not_lt_zero _), Nat.zero_add, Nat.sub_zero]
theorem pars_len (b : List Nat) : (parsL b).length ≤ b.length := by
  unfold parsL
  split
  · rw [items_len]; omega
  · exact Nat.zero_le _
set_option maxRecDepth 1000000 in
theorem lkp_fun (b : List Nat) (hb : Small b) (ex : Bool) (l : List Cv) (hl : ∀ c, c ∈ l → ∀ i, i < 32 → c.k i < 256) (ey : Bool) : Fun C P F_lkp [dB ex b, kA ey l] [] (.sb true) [] := by
  refine in_lkp (W := w_lkp) rfl 0 (by simp) rfl (fun id h => absurd rfl h) fun D => ?_
  refine of_eq (lkp_A b ex l ey 0 _) ?_
  refine ⟨sanity_fun, trivial, fun _ => post_tmp rfl (sm_same rfl), fun h1 => ⟨fun _ => post_tmp rfl (sm_same rfl), fun h2 => cut_ok (S2 := S_lkp4 b ex l ey) (ent_of [] rfl (tm_cons rfl (sm_same rfl) (tm_cons rfl (sm_same rfl) (tm_cons rfl (sm_same rfl) tm_nil))) hp_nil) ?_⟩⟩
  have h1 : b.length ≤ 150 := by simp only [decide_eq_false_iff_not] at h1; omega
  have h2 : l.length ≤ 4 := by simp only [decide_eq_false_iff_not] at h2; omega
  refine of_eq (lkp_C4 b ex l ey 0 _) ?_
  rw [bytesL_row]
  obtain ⟨p, ep⟩ : ∃ p, p = parsL b := ⟨_, rfl⟩
  obtain ⟨e, ee⟩ : ∃ e, e = parsE b := ⟨_, rfl⟩
  have f1 := parse_fun ex b hb (by omega)
  have f2 := rparse_fun ex b hb (by omega)
  rw [← ep, ← ee] at f1 f2 ⊢
  refine ⟨TT, f1, TT, f2, ⟨TT, TT⟩, cut_ok (S2 := S_lkp7 l ey p e) (ent_of [(6, 6), (7, 7), (9, 9)] rfl (tm_cons rfl (sm_same rfl) (tm_cons rfl (sm_ptr rfl) (tm_cons rfl (sm_ptr rfl) (tm_cons rfl (sm_same rfl) (tm_cons rfl (sm_ptr rfl) tm_nil))))) (hp_cons rfl rfl (sm_same rfl) (hp_cons rfl rfl (sm_same rfl) (hp_cons rfl rfl (sm_same rfl) hp_nil)))) ?_⟩
  refine of_eq (lkp_C7 l ey p e 0 _) ?_
  rw [toKs_A]
  have hkb := kbytes_fun ey l (by omega)
  have hrb := rkbytes_fun ey l (by omega)
  have hlen := bytesK_len l
  have hsm := bytesK_small hl
  obtain ⟨c, ec⟩ : ∃ c, c = bytesK l := ⟨_, rfl⟩
  rw [← ec] at hkb hrb hlen hsm ⊢
  refine ⟨hrb, by omega, cut_ok (S2 := S_lkp8 l ey p e c) (Ent.trans (ent_freeze _ [36]) (ent_of [(6, 6), (7, 7), (9, 9)] rfl (tm_cons rfl (sm_same rfl) (tm_cons rfl (sm_ptr rfl) (tm_cons rfl (sm_ptr rfl) (tm_cons rfl (sm_same rfl) (tm_cons rfl (sm_ptr rfl) (tm_cons rfl (sm_dat' (Nat.zero_add _) (by simp) fun i hi => cat0) tm_nil)))))) (hp_cons rfl rfl (sm_same rfl) (hp_cons rfl rfl (sm_same rfl) (hp_cons rfl rfl (sm_same rfl) hp_nil))))) ?_⟩
  refine of_eq (lkp_C8 l ey p e c 0 _) ?_
  rw [bytesL_row]
  obtain ⟨r, er⟩ : ∃ r, r = parsL c := ⟨_, rfl⟩
  obtain ⟨f, ef⟩ : ∃ f, f = parsE c := ⟨_, rfl⟩
  have f3 := parse_fun false c hsm (by omega)
  have f4 := rparse_fun false c hsm (by omega)
  have g1 := pars_len b
  have g2 := pars_len c
  rw [← er, ← ef] at f3 f4 ⊢
  rw [← ep] at g1
  rw [← er] at g2
  refine ⟨f3, TT, f4, ⟨TT, TT⟩, cut_ok (S2 := S_lkp10 l ey p e r f) (ent_of [(6, 6), (7, 7), (9, 9), (11, 11), (13, 13)] rfl (tm_cons rfl (sm_same rfl) (tm_cons rfl (sm_ptr rfl) (tm_cons rfl (sm_ptr rfl) (tm_cons rfl (sm_same rfl) (tm_cons rfl (sm_ptr rfl) (tm_cons rfl (sm_ptr rfl) (tm_cons rfl (sm_same rfl) (tm_cons rfl (sm_ptr rfl) tm_nil)))))))) (hp_cons rfl rfl (sm_same rfl) (hp_cons rfl rfl (sm_same rfl) (hp_cons rfl rfl (sm_same rfl) (hp_cons rfl rfl (sm_same rfl) (hp_cons rfl rfl (sm_same rfl) hp_nil)))))) ?_⟩
  refine of_eq (lkp_C10 l ey p e r f 0 _) ⟨fun _ => ?_, fun h => (by cases h)⟩
  have s1 := rsame_fun false p false p (by omega)
  have s2 := rsame_fun false r false r (by omega)
  rw [toKs_A, toKs_A, toKs_A, sameL_refl, sameL_refl]
  rw [sameL_refl] at s1 s2
  have hvv : (validB l == validB l) = true := beq_self_eq_true _
  rw [hvv]
  exact tt_then (beq_self_eq_true e) ⟨s1, trivial, tt_then rfl (tt_then (beq_self_eq_true f) ⟨s2, trivial, tt_then rfl ⟨valid_fun ey l (by omega), trivial, rvalid_fun ey l (by omega), trivial, post_tmp rfl (sm_same rfl)⟩⟩)⟩
theorem typed_cover {n : Nat} {x : AV} (h : Typed C.tt (n + 3) 49 x) : ∃ c : Cv, (∀ i, i < 32 → c.k i < 256) ∧ sim (fun _ => none) x (cvA c) := by
  have hd : (C.tt 49).d = .struct [(3, 0), (3, 1), (33, 2)] := by kernel_rfl
  have hd3 : (C.tt 3).d = .int .i64 := by kernel_rfl
  unfold Typed at h
  simp only [hd] at h
  obtain ⟨xs, rfl, hl, hx⟩ := h
  match xs, hl with
  | [a, b, c], _ =>
    obtain ⟨p, rfl, _⟩ := typed_i64 (n := n + 1) hd3 (hx 0 3 0 a rfl rfl)
    obtain ⟨q, rfl, _⟩ := typed_i64 (n := n + 1) hd3 (hx 1 3 1 b rfl rfl)
    obtain ⟨k, hk, f, rfl, hf⟩ := typed_u8s (n := n) (m := 32) (e := 5) rfl rfl rfl (hx 2 33 2 c rfl rfl)
    exact ⟨⟨p, q, k⟩, hk, .inl ⟨rfl, rfl⟩, .inl ⟨rfl, rfl⟩, .inr ⟨rfl, rfl, fun i hi => .inl (hf i hi)⟩, trivial⟩
theorem lkp_law {x0 x1 : AV} (h0 : Typed C.tt 6 44 x0) (h1 : Typed C.tt 6 26 x1) : Fun C P F_lkp [x0, x1] [] (.sb true) [] := by
  obtain ⟨b, ex, hb, _, s0⟩ := typed_bytes (e := 5) rfl rfl rfl h0
  obtain ⟨l, ey, _, hl, s1⟩ := typed_list (tt := C.tt) (s := 49) rfl c0 cvA (fun c => ∀ i, i < 32 → c.k i < 256) (fun y hy => typed_cover (n := 2) hy) h1
  exact (lkp_fun b hb ex l hl ey).sim ⟨s0, s1, trivial⟩ trivial
end Go.Bu.W

