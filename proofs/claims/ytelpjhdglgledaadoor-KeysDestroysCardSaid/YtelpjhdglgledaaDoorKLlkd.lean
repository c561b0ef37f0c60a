/- A destroyed key is not known any more, and every other one is what it was. -/
import Derived.Test.YtelpjhdglgledaaDoorK20
namespace Go.Bu.W
open Sp
def w_lkd : Way := wayU [0, 1, 2, 5, 6, 7, 8, 9, 10, 11, 12, 39, 54, 77] 79 [5,8]
def S_lkd5 (w : Nat → Nat) (id : Int) (k d : List Cv) : St := { tm := [(5, .ptr 5 []), (6, .sb false), (7, .sb true), (8, .ptr 8 []), (9, .i id), (10, .ptr 10 [])], hp := [(5, .c (w16 2 w)), (8, .c (ksA false k)), (10, .c (ksA false d))], seen := [5, 8, 10] }
def I_lkd (id : Int) (k d : List Cv) (os : List Int) (i : Nat) : St := { tm := [(7, .sb true), (8, .ptr 8 []), (9, .i id), (10, .ptr 10 []), (11, iA false os), (12, .i i)], hp := [(8, .c (ksA false k)), (10, .c (ksA false d))], seen := [8, 10] }
def S_lkd8 (id : Int) (k d : List Cv) (os : List Int) : St := { tm := [(7, .sb true), (8, .ptr 8 []), (9, .i id), (10, .ptr 10 []), (11, iA false os)], hp := [(8, .c (ksA false k)), (10, .c (ksA false d))], seen := [8, 10] }

set_option maxRecDepth 1000000 in
theorem lkd_A (s : Nat) (ex : Bool) (ids : List Nat) (w : Nat → Nat) {D : Dom} (K : Nat) (Φ : Ex → St → Prop) :
  (Holds C P 79 D K Φ (vc C w_lkd b_lkd [] (start [u8 s, u16A ex ids, w16 2 w] []) lf)) =
  (Fun W.C W.P 11 [] [] (AV.sb true) [] ∧
 (True ∧
 (Fun W.C W.P 12 [(AV.v (Value.int IntKind.u8 ((s : Nat) : Int))), (W.u16A ex ids)] [] (W.ksA false (W.KV (W.seedK s) (W.goneD (W.u16L ids)))) [] ∧
 ((((true = true) ∧ (true = true)) ∧ True) ∧
 ((((0 : Int) ≤ (0 : Int)) ∧ ((0 : Int) < (2 : Int))) ∧
 ((I64 (((w 0) : Nat) : Int)) ∧
 (((4096 : Int) ≠ (0 : Int)) ∧
 (Fun W.C W.P 13 [(W.ksA false (W.KV (W.seedK s) (W.goneD (W.u16L ids)))), (AV.i (Int.tmod (((w 0) : Nat) : Int) (4096 : Int)))] [] (W.ksA false (W.desL (W.toKs (W.ksA false (W.KV (W.seedK s) (W.goneD (W.u16L ids))))) (Int.tmod (((w 0) : Nat) : Int) (4096 : Int)))) [] ∧
 ((((true = true) ∧ (true = true)) ∧ True) ∧
 (∃ (S2 : St), Ent W.C 79 D K (St.mk [(0, (AV.v (Value.int IntKind.u8 ((s : Nat) : Int)))), (1, (W.u16A ex ids)), (2, (W.w16 2 w)), (5, (AV.ptr 5 [])), (6, (AV.v (Value.bool false))), (7, (AV.sb true)), (8, (AV.ptr 8 [])), (9, (AV.i (Int.tmod (((w 0) : Nat) : Int) (4096 : Int)))), (10, (AV.ptr 10 []))] [(5, (Blk.c (W.w16 2 w))), (8, (Blk.c (W.ksA false (W.KV (W.seedK s) (W.goneD (W.u16L ids)))))), (10, (Blk.c (W.ksA false (W.desL (W.toKs (W.ksA false (W.KV (W.seedK s) (W.goneD (W.u16L ids))))) (Int.tmod (((w 0) : Nat) : Int) (4096 : Int))))))] [10, 8, 5]) S2 ∧ Holds W.C W.P 79 D K Φ (cutAt W.C w_lkd b_lkd [1, 1, 1, 1, 1, 0, 0] S2 (after W.C w_lkd b_lkd [1, 1, 1, 1, 1, 0, 0] [] lf)))))))))))) := by kernel_rfl
set_option maxRecDepth 1000000 in
theorem lkd_C5 (w : Nat → Nat) (id : Int) (k d : List Cv) {D : Dom} (K : Nat) (Φ : Ex → St → Prop) :
  (Holds C P 79 D K Φ (cutAt C w_lkd b_lkd [1, 1, 1, 1, 1, 0, 0] (S_lkd5 w id k d) (after C w_lkd b_lkd [1, 1, 1, 1, 1, 0, 0] [] lf))) =
  (Fun W.C W.P 14 [(W.ksA false d)] [] (AV.sb (W.validB (W.toKs (W.ksA false d)))) [] ∧
 (True ∧
 (((! (W.validB (W.toKs (W.ksA false d)))) = true →
 (Φ Ex.ret (St.mk [(5, (AV.ptr 5 [])), (6, (AV.v (Value.bool false))), (7, (AV.sb true)), (8, (AV.ptr 8 [])), (9, (AV.i id)), (10, (AV.ptr 10 [])), (39, (AV.v (Value.bool true)))] [(5, (Blk.c (W.w16 2 w))), (8, (Blk.c (W.ksA false k))), (10, (Blk.c (W.ksA false d)))] [5, 8, 10]))) ∧
 ((! (W.validB (W.toKs (W.ksA false d)))) = false →
 (Fun W.C W.P 15 [(W.ksA false d), (AV.i id)] [] (AV.st [(W.kyA (W.keyR (W.toKs (W.ksA false d)) id)), (AV.i (W.keyE (W.toKs (W.ksA false d)) id))]) [] ∧
  (((∀ (i : Nat), ((i < 32) → True)) ∧ (True ∧ True)) ∧
  ((((W.keyE (W.toKs (W.ksA false d)) id) != (60 : Int)) = true →
  (Φ Ex.ret (St.mk [(5, (AV.ptr 5 [])), (6, (AV.v (Value.bool false))), (7, (AV.sb true)), (8, (AV.ptr 8 [])), (9, (AV.i id)), (10, (AV.ptr 10 [])), (39, (AV.v (Value.bool true)))] [(5, (Blk.c (W.w16 2 w))), (8, (Blk.c (W.ksA false k))), (10, (Blk.c (W.ksA false d)))] [5, 8, 10]))) ∧
  (((W.keyE (W.toKs (W.ksA false d)) id) != (60 : Int)) = false →
  (Fun W.C W.P 16 [(AV.dat 1 false 1 (fun (i : Nat) => (nthD [(W.ksA false d)] (0 + i) (AV.v (Value.tuple (List.toArray [])))))), (AV.i id)] [] (AV.sb (W.knownB (W.toLs (AV.dat 1 false 1 (fun (i : Nat) => (nthD [(W.ksA false d)] (0 + i) (AV.v (Value.tuple (List.toArray []))))))) id)) [] ∧
   (True ∧
   (((W.knownB (W.toLs (AV.dat 1 false 1 (fun (i : Nat) => (nthD [(W.ksA false d)] (0 + i) (AV.v (Value.tuple (List.toArray []))))))) id) = true →
   (Φ Ex.ret (St.mk [(5, (AV.ptr 5 [])), (6, (AV.v (Value.bool false))), (7, (AV.sb true)), (8, (AV.ptr 8 [])), (9, (AV.i id)), (10, (AV.ptr 10 [])), (39, (AV.v (Value.bool true)))] [(5, (Blk.c (W.w16 2 w))), (8, (Blk.c (W.ksA false k))), (10, (Blk.c (W.ksA false d))), (36, (Blk.c (AV.st [(W.ksA false d)])))] [36, 5, 8, 10]))) ∧
   ((W.knownB (W.toLs (AV.dat 1 false 1 (fun (i : Nat) => (nthD [(W.ksA false d)] (0 + i) (AV.v (Value.tuple (List.toArray []))))))) id) = false →
   ((((0 : Int) ≤ (1 : Int)) ∧ ((1 : Int) < (2 : Int))) ∧
    ((I64 (((w 1) : Nat) : Int)) ∧
    (((4096 : Int) ≠ (0 : Int)) ∧
    (∃ (S2 : St), Ent W.C 79 D K (St.mk [(5, (AV.ptr 5 [])), (6, (AV.sb false)), (7, (AV.sb true)), (8, (AV.ptr 8 [])), (9, (AV.i id)), (10, (AV.ptr 10 [])), (11, (AV.sl 50 [] 0 6 6 true 1)), (39, (AV.v (Value.bool false)))] [(5, (Blk.c (W.w16 2 w))), (8, (Blk.c (W.ksA false k))), (10, (Blk.c (W.ksA false d))), (36, (Blk.c (AV.st [(W.ksA false d)]))), (50, (Blk.c (AV.st [(AV.i (Int.tmod (((w 1) : Nat) : Int) (4096 : Int))), (AV.i (bXor IntKind.i64 id (1 : Int))), (AV.i (bXor IntKind.i64 id (2 : Int))), (AV.i (bXor IntKind.i64 id (2048 : Int))), (AV.i (0 : Int)), (AV.i (4095 : Int))])))] [50, 36, 5, 8, 10]) S2 ∧ Holds W.C W.P 79 D K Φ (cutAt W.C w_lkd b_lkd [1, 1, 1, 1, 1, 1, 1, 0, 0] S2 (after W.C w_lkd b_lkd [1, 1, 1, 1, 1, 1, 1, 0, 0] [] lf)))))))))))))))))) := by kernel_rfl
theorem lkd_C8 (id : Int) (k d : List Cv) (os : List Int) {D : Dom} (K : Nat) (Φ : Ex → St → Prop) :
  (Holds C P 79 D K Φ (cutAt C w_lkd b_lkd [1, 1, 1, 1, 1, 1, 1, 0, 0] (S_lkd8 id k d os) (after C w_lkd b_lkd [1, 1, 1, 1, 1, 1, 1, 0, 0] [] lf))) =
  (LoopOK W.C W.P 79 D K (bodyAt b_lkd [1, 1, 1, 1, 1, 1, 1, 0, 1, 0]) (St.mk [(7, (AV.sb true)), (8, (AV.ptr 8 [])), (9, (AV.i id)), (10, (AV.ptr 10 [])), (11, (W.iA false os)), (12, (AV.i (0 : Int)))] [(8, (Blk.c (W.ksA false k))), (10, (Blk.c (W.ksA false d)))] [8, 10]) (fun (e : Ex) (S' : St) => Holds W.C W.P 79 D K Φ (after W.C w_lkd b_lkd [1, 1, 1, 1, 1, 1, 1, 0, 1, 0] [] lf e S'))) := by kernel_rfl
noncomputable abbrev bd_lkd_0 : Code := bodyAt (b_lkd) [1, 1, 1, 1, 1, 1, 1, 0, 1, 0]
theorem ok_lkd_0 : codeOK bd_lkd_0 = true := by kernel_rfl
noncomputable abbrev rest_lkd_0 (D : Dom) (K : Nat) (Φ : Ex → St → Prop) : Ex → St → Prop := fun e S' => Holds C P 79 D K Φ (after C w_lkd (b_lkd) [1, 1, 1, 1, 1, 1, 1, 0, 1, 0] [] lf e S')
theorem lkd_L0 (id : Int) (k d : List Cv) (os : List Int) (i : Nat) {D : Dom} (K : Nat) (Φ : Ex → St → Prop) :
  (Holds C P 79 D K (RoundQ C 79 D K (I_lkd id k d os) (fun i => i ≤ os.length) (fun i => os.length - i) ((fun i => os.length - i) (i)) (rest_lkd_0 D K Φ)) (vc C w_lkd bd_lkd_0 [] ((I_lkd id k d os) (i)) lf)) =
  (((decide (((i : Nat) : Int) < (((List.length os) : Nat) : Int))) = true →
 ((((0 : Int) ≤ ((i : Nat) : Int)) ∧ (((i : Nat) : Int) < (((List.length os) : Nat) : Int))) ∧
  ((((List.getD os i (0 : Int)) != id) = true →
  ((((0 : Int) ≤ ((i : Nat) : Int)) ∧ (((i : Nat) : Int) < (((List.length os) : Nat) : Int))) ∧
   (Fun W.C W.P 15 [(W.ksA false d), (AV.i (List.getD os i (0 : Int)))] [] (AV.st [(W.kyA (W.keyR (W.toKs (W.ksA false d)) (List.getD os i (0 : Int)))), (AV.i (W.keyE (W.toKs (W.ksA false d)) (List.getD os i (0 : Int))))]) [] ∧
   (((∀ (i1 : Nat), ((i1 < 32) → True)) ∧ (True ∧ True)) ∧
   ((((0 : Int) ≤ ((i : Nat) : Int)) ∧ (((i : Nat) : Int) < (((List.length os) : Nat) : Int))) ∧
   (Fun W.C W.P 15 [(W.ksA false k), (AV.i (List.getD os i (0 : Int)))] [] (AV.st [(W.kyA (W.keyR (W.toKs (W.ksA false k)) (List.getD os i (0 : Int)))), (AV.i (W.keyE (W.toKs (W.ksA false k)) (List.getD os i (0 : Int))))]) [] ∧
   (((∀ (i1 : Nat), ((i1 < 32) → True)) ∧ (True ∧ True)) ∧
   ((∀ (i1 : Nat), ((i1 < 32) → ((IntKind.u8 = IntKind.u8) ∧ (IntKind.u8 = IntKind.u8)))) ∧
   (((! ((List.all (List.range 32) (fun (i1 : Nat) => ((((W.keyR (W.toKs (W.ksA false d)) (List.getD os i (0 : Int)) i1) : Nat) : Int) == (((W.keyR (W.toKs (W.ksA false k)) (List.getD os i (0 : Int)) i1) : Nat) : Int)))) && (((W.keyE (W.toKs (W.ksA false d)) (List.getD os i (0 : Int))) == (W.keyE (W.toKs (W.ksA false k)) (List.getD os i (0 : Int)))) && true))) = true →
   (Φ Ex.ret (St.mk [(6, (AV.v (Value.bool false))), (7, (AV.sb true)), (8, (AV.ptr 8 [])), (9, (AV.i id)), (10, (AV.ptr 10 [])), (11, (W.iA false os)), (12, (AV.i ((i : Nat) : Int))), (54, (AV.v (Value.bool true))), (77, (AV.v (Value.bool true)))] [(8, (Blk.c (W.ksA false k))), (10, (Blk.c (W.ksA false d)))] [8, 10]))) ∧
   ((! ((List.all (List.range 32) (fun (i1 : Nat) => ((((W.keyR (W.toKs (W.ksA false d)) (List.getD os i (0 : Int)) i1) : Nat) : Int) == (((W.keyR (W.toKs (W.ksA false k)) (List.getD os i (0 : Int)) i1) : Nat) : Int)))) && (((W.keyE (W.toKs (W.ksA false d)) (List.getD os i (0 : Int))) == (W.keyE (W.toKs (W.ksA false k)) (List.getD os i (0 : Int)))) && true))) = false →
   ((I64 (((i + 1) : Nat) : Int)) ∧
    ((RoundQ C 79 D K (I_lkd id k d os) (fun i => i ≤ os.length) (fun i => os.length - i) ((fun i => os.length - i) (i)) (rest_lkd_0 D K Φ)) Ex.normal (St.mk [(7, (AV.sb true)), (8, (AV.ptr 8 [])), (9, (AV.i id)), (10, (AV.ptr 10 [])), (11, (W.iA false os)), (12, (AV.i (((i + 1) : Nat) : Int))), (54, (AV.v (Value.bool true))), (77, (AV.v (Value.bool false)))] [(8, (Blk.c (W.ksA false k))), (10, (Blk.c (W.ksA false d)))] [8, 10]))))))))))))) ∧
  (((List.getD os i (0 : Int)) != id) = false →
  ((I64 (((i + 1) : Nat) : Int)) ∧
   ((RoundQ C 79 D K (I_lkd id k d os) (fun i => i ≤ os.length) (fun i => os.length - i) ((fun i => os.length - i) (i)) (rest_lkd_0 D K Φ)) Ex.normal (St.mk [(7, (AV.sb true)), (8, (AV.ptr 8 [])), (9, (AV.i id)), (10, (AV.ptr 10 [])), (11, (W.iA false os)), (12, (AV.i (((i + 1) : Nat) : Int))), (54, (AV.v (Value.bool true))), (77, (AV.v (Value.bool false)))] [(8, (Blk.c (W.ksA false k))), (10, (Blk.c (W.ksA false d)))] [8, 10]))))))) ∧
 ((decide (((i : Nat) : Int) < (((List.length os) : Nat) : Int))) = false →
 (Φ Ex.ret (St.mk [(6, (AV.sb true)), (7, (AV.sb true)), (8, (AV.ptr 8 [])), (9, (AV.i id)), (10, (AV.ptr 10 [])), (11, (W.iA false os)), (12, (AV.i ((i : Nat) : Int))), (54, (AV.v (Value.bool false)))] [(8, (Blk.c (W.ksA false k))), (10, (Blk.c (W.ksA false d)))] [8, 10])))) := by kernel_rfl

set_option maxRecDepth 1000000 in
theorem lkd_fun (s : Nat) (hs : s < 256) (ex : Bool) (ids : List Nat) (hi : ∀ i, i < ids.length → ids.getD i 0 < 65536) (w : Nat → Nat) (hw : ∀ i, i < 2 → w i < 65536) : Fun C P F_lkd [u8 s, u16A ex ids, w16 2 w] [] (.sb true) [] := by
  refine in_lkd (W := w_lkd) rfl 0 (by simp) rfl (fun id h => absurd rfl h) fun D => ?_
  refine of_eq (lkd_A s ex ids w 0 _) ?_
  rw [u16L_eq, tmod4096]
  obtain ⟨id, hid⟩ : ∃ id, id = ((w 0 % 4096 : Nat) : Int) := ⟨_, rfl⟩
  have hr : inR id = true := by rw [hid]; exact inR_mod _
  rw [← hid]
  have hk := KOK.made s ids
  obtain ⟨k, ek⟩ : ∃ k, k = KV (seedK s) (goneD ids) := ⟨_, rfl⟩
  rw [← ek] at hk ⊢
  rw [toKs_A]
  have hd := hk.des hr
  obtain ⟨d, ed⟩ : ∃ d, d = desL k id := ⟨_, rfl⟩
  rw [← ed] at hd ⊢
  have h0 := hw 0 (by decide)
  have h1 := hw 1 (by decide)
  have hmade := made_fun s hs ex ids hi
  rw [← ek] at hmade
  have hdes := destroy_fun false k id hk.n hk.v
  rw [← ed] at hdes
  have hx : inX (id :: goneD ids) id = true := by simp [inX]
  refine ⟨sanity_fun, trivial, hmade, TT, (by first | omega | decide | (unfold I64; omega)), (by first | omega | decide | (unfold I64; omega)), by decide, hdes, TT, cut_ok (S2 := S_lkd5 w id k d) (ent_of [(5, 5), (8, 8), (10, 10)] rfl (tm_cons rfl (sm_ptr rfl) (tm_cons rfl (sm_b rfl) (tm_cons rfl (sm_same rfl) (tm_cons rfl (sm_ptr rfl) (tm_cons rfl (sm_same rfl) (tm_cons rfl (sm_ptr rfl) tm_nil)))))) (hp_cons rfl rfl (sm_same rfl) (hp_cons rfl rfl (sm_same rfl) (hp_cons rfl rfl (sm_same rfl) hp_nil)))) ?_⟩
  refine of_eq (lkd_C5 w id k d 0 _) ?_
  obtain ⟨q1, _, q3⟩ := known_one hd id
  rw [toKs_A, q3, tmod4096]
  refine ⟨rvalid_fun false d (by have := hd.n; omega), trivial, nf_then hd.v.valid ⟨got_fun false d id (by have := hd.n; omega) hd.v, T32, bne_then (by rw [hd.E, hr, hx]; rfl) ⟨q1, trivial, ff_then (by rw [hd.B, hx]; simp) ⟨(by first | omega | decide | (unfold I64; omega)), (by first | omega | decide | (unfold I64; omega)), by decide, ?_⟩⟩⟩⟩
  obtain ⟨os, eo⟩ : ∃ os : List Int, os = [((w 1 % 4096 : Nat) : Int), bXor .i64 id 1, bXor .i64 id 2, bXor .i64 id 2048, 0, 4095] := ⟨_, rfl⟩
  have ho : os.length = 6 := by rw [eo]; rfl
  refine cut_ok (S2 := S_lkd8 id k d os) (Ent.trans (ent_freeze _ [50]) (ent_of [(8, 8), (10, 10)] rfl (tm_cons rfl (sm_same rfl) (tm_cons rfl (sm_ptr rfl) (tm_cons rfl (sm_same rfl) (tm_cons rfl (sm_ptr rfl) (tm_cons rfl (sm_dat' ho.symm (by simp) fun i hi => ?_) tm_nil))))) (hp_cons rfl rfl (sm_same rfl) (hp_cons rfl rfl (sm_same rfl) hp_nil)))) ?_
  · rw [eo]
    match i, hi with
    | 0, _ => rfl
    | 1, _ => rfl
    | 2, _ => rfl
    | 3, _ => rfl
    | 4, _ => rfl
    | 5, _ => rfl
  clear eo
  refine of_eq (lkd_C8 id k d os 0 _) ?_
  refine loop_inv (W := w_lkd) ctx mixed ok_lkd_0 (I_lkd id k d os) (fun i => i ≤ os.length) (fun i => os.length - i) 0 (Nat.zero_le _) ?_ fun i hi => ?_
  · exact ent_of [(8, 8), (10, 10)] rfl (tm_cons rfl (sm_same rfl) (tm_cons rfl (sm_ptr rfl) (tm_cons rfl (sm_same rfl) (tm_cons rfl (sm_ptr rfl) (tm_cons rfl (sm_same rfl) (tm_cons rfl (sm_same rfl) tm_nil)))))) (hp_cons rfl rfl (sm_same rfl) (hp_cons rfl rfl (sm_same rfl) hp_nil))
  refine of_eq (lkd_L0 id k d os i 0 _) ⟨fun h => ?_, fun h => ?_⟩
  · simp only [decide_eq_true_eq] at h
    rw [toKs_A, toKs_A]
    refine ⟨(by first | omega | decide | (unfold I64; omega)), fun h2 => ?_, fun h2 => ⟨(by first | omega | decide | (unfold I64; omega)), round_end (i + 1) (by omega) (ent_of [(8, 8), (10, 10)] rfl (tm_cons rfl (sm_same rfl) (tm_cons rfl (sm_ptr rfl) (tm_cons rfl (sm_same rfl) (tm_cons rfl (sm_ptr rfl) (tm_cons rfl (sm_same rfl) (tm_cons rfl (sm_same rfl) tm_nil)))))) (hp_cons rfl rfl (sm_same rfl) (hp_cons rfl rfl (sm_same rfl) hp_nil))) (by dsimp only; omega)⟩⟩
    have hne : os.getD i 0 ≠ id := by simpa using h2
    have hx2 : inX (id :: goneD ids) (os.getD i 0) = inX (goneD ids) (os.getD i 0) := inX_ne hne
    exact ⟨(by first | omega | decide | (unfold I64; omega)), got_fun false d _ (by have := hd.n; omega) hd.v, T32, (by first | omega | decide | (unfold I64; omega)), got_fun false k _ (by have := hk.n; omega) hk.v, T32, fun _ _ => ⟨rfl, rfl⟩, nf_then (got_eq (by rw [hd.R, hk.R, hx2]) (by rw [hd.E, hk.E, hx2]))
      ⟨(by first | omega | decide | (unfold I64; omega)), round_end (i + 1) (by omega) (ent_of [(8, 8), (10, 10)] rfl (tm_cons rfl (sm_same rfl) (tm_cons rfl (sm_ptr rfl) (tm_cons rfl (sm_same rfl) (tm_cons rfl (sm_ptr rfl) (tm_cons rfl (sm_same rfl) (tm_cons rfl (sm_same rfl) tm_nil)))))) (hp_cons rfl rfl (sm_same rfl) (hp_cons rfl rfl (sm_same rfl) hp_nil))) (by dsimp only; omega)⟩⟩
  · exact post_tmp rfl (sm_same rfl)
theorem lkd_law {x0 x1 x2 : AV} (h0 : Typed C.tt 6 5 x0) (h1 : Typed C.tt 6 22 x1) (h2 : Typed C.tt 6 24 x2) : Fun C P F_lkd [x0, x1, x2] [] (.sb true) [] := by
  obtain ⟨s, rfl, hs⟩ := typed_u8 rfl h0
  obtain ⟨ids, ex, hi, _, s1⟩ := typed_ids h1
  obtain ⟨w, hw, s2⟩ := typed_w16 (m := 2) rfl h2
  exact (lkd_fun s hs ex ids hi w hw).sim ⟨sm_same rfl, s1, s2, trivial⟩ trivial
end Go.Bu.W

