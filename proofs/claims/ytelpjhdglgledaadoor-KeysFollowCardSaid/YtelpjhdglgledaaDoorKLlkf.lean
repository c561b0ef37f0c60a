/- The key of a chunk is found from the seed by twelve hashes. -/
import Derived.Test.YtelpjhdglgledaaDoorK20
namespace Go.Bu.W
open Sp
def w_lkf : Way := wayU [0, 1, 2, 4, 5, 6, 7, 8, 15] 37 [4,8]
def wayK0 (k : Nat → Nat) (id : Int) (j : Nat) : Nat → Nat := (wayC (rootC k) id j).k
def S_lkf4 (k : Nat → Nat) (id : Int) (q : Nat → Nat) : St := { tm := [(2, .ptr 2 []), (5, .sb true), (6, .i id), (7, .ptr 7 [])], hp := [(2, .c (kyA k)), (7, .c (kyA q))], seen := [2, 7] }
def I_lkf (k : Nat → Nat) (id : Nat) (j : Nat) : St := { tm := [(2, .ptr 2 []), (5, .sb true), (6, .i id), (7, .ptr 7 []), (8, .i (11 - j))], hp := [(2, .c (kyA k)), (7, .c (kyA (wayK0 k id j)))], seen := [2, 7] }

set_option maxRecDepth 1000000 in
theorem lkf_A (k : Nat → Nat) (w : Nat) {D : Dom} (K : Nat) (Φ : Ex → St → Prop) :
  (Holds C P 37 D K Φ (vc C w_lkf b_lkf [] (start [kyA k, .v (.int .u16 (w : Int))] []) lf)) =
  (Fun W.C W.P 11 [] [] (AV.sb true) [] ∧
 (True ∧
 ((I64 ((w : Nat) : Int)) ∧
 (((4096 : Int) ≠ (0 : Int)) ∧
 ((W.Sh32) ∧
 (∃ (S2 : St), Ent W.C 37 D K (St.mk [(0, (AV.arr 32 1 (fun (i : Nat) => (AV.v (Value.int IntKind.u8 (((k i) : Nat) : Int)))))), (1, (AV.v (Value.int IntKind.u16 ((w : Nat) : Int)))), (2, (AV.ptr 2 [])), (4, (AV.v (Value.bool false))), (5, (AV.sb true)), (6, (AV.i (Int.tmod ((w : Nat) : Int) (4096 : Int)))), (7, (AV.ptr 7 []))] [(2, (Blk.c (AV.arr 32 1 (fun (i : Nat) => (AV.v (Value.int IntKind.u8 (((k i) : Nat) : Int))))))), (7, (Blk.c (AV.arr 32 1 (fun (i : Nat) => (AV.v (Value.int IntKind.u8 (((k i) : Nat) : Int)))))))] [7, 2]) S2 ∧ Holds W.C W.P 37 D K Φ (cutAt W.C w_lkf b_lkf [1, 1, 1, 1, 0, 0] S2 (after W.C w_lkf b_lkf [1, 1, 1, 1, 0, 0] [] lf)))))))) := by kernel_rfl
theorem lkf_C4 (k : Nat → Nat) (id : Int) (q : Nat → Nat) {D : Dom} (K : Nat) (Φ : Ex → St → Prop) :
  (Holds C P 37 D K Φ (cutAt C w_lkf b_lkf [1, 1, 1, 1, 0, 0] (S_lkf4 k id q) (after C w_lkf b_lkf [1, 1, 1, 1, 0, 0] [] lf))) =
  (LoopOK W.C W.P 37 D K (bodyAt b_lkf [1, 1, 1, 1, 0, 1, 0]) (St.mk [(2, (AV.ptr 2 [])), (5, (AV.sb true)), (6, (AV.i id)), (7, (AV.ptr 7 [])), (8, (AV.i (11 : Int)))] [(2, (Blk.c (AV.arr 32 1 (fun (i : Nat) => (AV.v (Value.int IntKind.u8 (((k i) : Nat) : Int))))))), (7, (Blk.c (AV.arr 32 1 (fun (i : Nat) => (AV.v (Value.int IntKind.u8 (((q i) : Nat) : Int)))))))] [2, 7]) (fun (e : Ex) (S' : St) => Holds W.C W.P 37 D K Φ (after W.C w_lkf b_lkf [1, 1, 1, 1, 0, 1, 0] [] lf e S'))) := by kernel_rfl
noncomputable abbrev bd_lkf_0 : Code := bodyAt (b_lkf) [1, 1, 1, 1, 0, 1, 0]
theorem ok_lkf_0 : codeOK bd_lkf_0 = true := by kernel_rfl
noncomputable abbrev rest_lkf_0 (D : Dom) (K : Nat) (Φ : Ex → St → Prop) : Ex → St → Prop := fun e S' => Holds C P 37 D K Φ (after C w_lkf (b_lkf) [1, 1, 1, 1, 0, 1, 0] [] lf e S')
theorem lkf_L0 (k : Nat → Nat) (id : Nat) (j : Nat) {D : Dom} (K : Nat) (Φ : Ex → St → Prop) :
  (Holds C P 37 D K (RoundQ C 37 D K (I_lkf k id) (fun j => j ≤ 12) (fun j => 12 - j) ((fun j => 12 - j) (j)) (rest_lkf_0 D K Φ)) (vc C w_lkf bd_lkf_0 [] ((I_lkf k id) (j)) lf)) =
  (((decide (((11 : Int) - ((j : Nat) : Int)) ≥ (0 : Int))) = true →
 ((((0 : Int) ≤ (0 : Int)) ∧ (((0 : Int) ≤ (32 : Int)) ∧ ((32 : Int) ≤ (32 : Int)))) ∧
  (((0 : Int) ≤ ((11 : Int) - ((j : Nat) : Int))) ∧
  (Fun W.C W.P 21 [(AV.v (Value.int IntKind.u8 (75 : Int))), (AV.dat 2 false 1 (fun (i : Nat) => (nthD [(AV.dat 32 false 1 (fun (i1 : Nat) => (AV.v (Value.int IntKind.u8 (((W.wayK0 k ((id : Nat) : Int) j (0 + i1)) : Nat) : Int))))), (AV.dat 1 false 1 (fun (i1 : Nat) => (nthD [(AV.v (Value.int IntKind.u8 (IntKind.wrap IntKind.u8 (bAnd IntKind.i64 (bShr IntKind.i64 ((id : Nat) : Int) ((11 : Int) - ((j : Nat) : Int))) (1 : Int)))))] (0 + i1) (AV.v (Value.tuple (List.toArray []))))))] (0 + i) (AV.v (Value.tuple (List.toArray []))))))] [] (W.kyA (Sp.sumN (Sp.ofBytes 75 (partsL 2 (fun (i1 : Nat) => (nthD [(AV.dat 32 false 1 (fun (i2 : Nat) => (AV.v (Value.int IntKind.u8 (((W.wayK0 k ((id : Nat) : Int) j (0 + i2)) : Nat) : Int))))), (AV.dat 1 false 1 (fun (i2 : Nat) => (nthD [(AV.v (Value.int IntKind.u8 (IntKind.wrap IntKind.u8 (bAnd IntKind.i64 (bShr IntKind.i64 ((id : Nat) : Int) ((11 : Int) - ((j : Nat) : Int))) (1 : Int)))))] (0 + i2) (AV.v (Value.tuple (List.toArray []))))))] (0 + i1) (AV.v (Value.tuple (List.toArray []))))))))) [] ∧
  ((∀ (i : Nat), ((i < 32) → True)) ∧
  ((W.Sh32) ∧
  ((I64 (((11 : Int) - ((j : Nat) : Int)) - (1 : Int))) ∧
  ((RoundQ C 37 D K (I_lkf k id) (fun j => j ≤ 12) (fun j => 12 - j) ((fun j => 12 - j) (j)) (rest_lkf_0 D K Φ)) Ex.normal (St.mk [(2, (AV.ptr 2 [])), (5, (AV.sb true)), (6, (AV.i ((id : Nat) : Int))), (7, (AV.ptr 7 [])), (8, (AV.i (((11 : Int) - ((j : Nat) : Int)) - (1 : Int)))), (15, (AV.v (Value.bool true)))] [(2, (Blk.c (AV.arr 32 1 (fun (i : Nat) => (AV.v (Value.int IntKind.u8 (((k i) : Nat) : Int))))))), (7, (Blk.c (W.kyA (Sp.sumN (Sp.ofBytes 75 (partsL 2 (fun (i1 : Nat) => (nthD [(AV.dat 32 false 1 (fun (i2 : Nat) => (AV.v (Value.int IntKind.u8 (((W.wayK0 k ((id : Nat) : Int) j (0 + i2)) : Nat) : Int))))), (AV.dat 1 false 1 (fun (i2 : Nat) => (nthD [(AV.v (Value.int IntKind.u8 (IntKind.wrap IntKind.u8 (bAnd IntKind.i64 (bShr IntKind.i64 ((id : Nat) : Int) ((11 : Int) - ((j : Nat) : Int))) (1 : Int)))))] (0 + i2) (AV.v (Value.tuple (List.toArray []))))))] (0 + i1) (AV.v (Value.tuple (List.toArray []))))))))))), (24, (Blk.c (AV.st [(AV.v (Value.int IntKind.u8 (IntKind.wrap IntKind.u8 (bAnd IntKind.i64 (bShr IntKind.i64 ((id : Nat) : Int) ((11 : Int) - ((j : Nat) : Int))) (1 : Int)))))]))), (25, (Blk.c (AV.st [(AV.sl 7 [] 0 32 32 true 1), (AV.sl 24 [] 0 1 1 true 1)])))] [25, 24, 2, 7]))))))))) ∧
 ((decide (((11 : Int) - ((j : Nat) : Int)) ≥ (0 : Int))) = false →
 (∃ (S2 : St), Ent W.C 37 D K (St.mk [(2, (AV.ptr 2 [])), (5, (AV.sb true)), (6, (AV.i ((id : Nat) : Int))), (7, (AV.ptr 7 [])), (8, (AV.i ((11 : Int) - ((j : Nat) : Int)))), (15, (AV.v (Value.bool false)))] [(2, (Blk.c (AV.arr 32 1 (fun (i : Nat) => (AV.v (Value.int IntKind.u8 (((k i) : Nat) : Int))))))), (7, (Blk.c (AV.arr 32 1 (fun (i : Nat) => (AV.v (Value.int IntKind.u8 (((W.wayK0 k ((id : Nat) : Int) j i) : Nat) : Int)))))))] [2, 7]) S2 ∧ Holds W.C W.P 37 D K Φ (cutAt W.C w_lkf b_lkf [1, 1, 1, 1, 1, 0] S2 (after W.C w_lkf b_lkf [1, 1, 1, 1, 1, 0] [] lf))))) := by kernel_rfl
theorem lkf_C8 (k : Nat → Nat) (id : Int) (q : Nat → Nat) {D : Dom} (K : Nat) (Φ : Ex → St → Prop) :
  (Holds C P 37 D K Φ (cutAt C w_lkf b_lkf [1, 1, 1, 1, 1, 0] (S_lkf4 k id q) (after C w_lkf b_lkf [1, 1, 1, 1, 1, 0] [] lf))) =
  ((true = true →
 (Fun W.C W.P 22 [(AV.arr 32 1 (fun (i : Nat) => (AV.v (Value.int IntKind.u8 (((k i) : Nat) : Int)))))] [] (W.ksA false (W.newL k)) [] ∧
  (Fun W.C W.P 15 [(W.ksA false (W.newL k)), (AV.i id)] [] (AV.st [(W.kyA (W.keyR [(W.cAt (W.newL k) 0)] id)), (AV.i (W.keyE [(W.cAt (W.newL k) 0)] id))]) [] ∧
  (((∀ (i : Nat), ((i < 32) → True)) ∧ (True ∧ True)) ∧
  ((∀ (i : Nat), ((i < 32) → ((IntKind.u8 = IntKind.u8) ∧ (IntKind.u8 = IntKind.u8)))) ∧
  (Φ Ex.ret (St.mk [(2, (AV.ptr 2 [])), (4, (AV.sb ((List.all (List.range 32) (fun (i : Nat) => ((((W.keyR [(W.cAt (W.newL k) 0)] id i) : Nat) : Int) == (((q i) : Nat) : Int)))) && (((W.keyE [(W.cAt (W.newL k) 0)] id) == (0 : Int)) && true)))), (5, (AV.sb true)), (6, (AV.i id)), (7, (AV.ptr 7 []))] [(2, (Blk.c (AV.arr 32 1 (fun (i : Nat) => (AV.v (Value.int IntKind.u8 (((k i) : Nat) : Int))))))), (7, (Blk.c (AV.arr 32 1 (fun (i : Nat) => (AV.v (Value.int IntKind.u8 (((q i) : Nat) : Int)))))))] [2, 7]))))))) ∧
 (true = false →
 (Φ Ex.ret (St.mk [(2, (AV.ptr 2 [])), (4, (AV.v (Value.bool false))), (5, (AV.sb true)), (6, (AV.i id)), (7, (AV.ptr 7 []))] [(2, (Blk.c (AV.arr 32 1 (fun (i : Nat) => (AV.v (Value.int IntKind.u8 (((k i) : Nat) : Int))))))), (7, (Blk.c (AV.arr 32 1 (fun (i : Nat) => (AV.v (Value.int IntKind.u8 (((q i) : Nat) : Int)))))))] [2, 7])))) := by kernel_rfl
theorem and_one (x : Nat) (hx : x < 2 ^ 63) : bAnd IntKind.i64 (x : Int) 1 = ((x % 2 : Nat) : Int) := by
  unfold bAnd
  have e : (BitVec.ofInt IntKind.i64.bits (x : Int) &&& BitVec.ofInt IntKind.i64.bits 1).toNat = x % 2 := by
    rw [BitVec.toNat_and, BitVec.toNat_ofInt, BitVec.toNat_ofInt]
    show ((x : Int) % 18446744073709551616).toNat &&& (1 % 18446744073709551616 : Int).toNat = _
    rw [show (1 % 18446744073709551616 : Int).toNat = 1 by decide, show ((x : Int) % 18446744073709551616).toNat = x by omega, Nat.and_one_is_mod]
  rw [e]
  exact wrap_i64n (by omega)
theorem shr_nat (x s : Nat) (hs : s ≤ 64) : bShr IntKind.i64 (x : Int) (s : Int) = ((x / 2 ^ s : Nat) : Int) := by
  unfold bShr
  rw [show min ((s : Int).toNat) IntKind.i64.bits = s by show min s 64 = s; omega, Int.fdiv_eq_ediv_of_nonneg _ (Int.le_of_lt (Int.pow_pos (by decide)))]
  norm_cast
theorem side_bit (k : Nat → Nat) (id : Nat) (hid : id < 4096) (j : Nat) (hj : j < 12) : bAnd IntKind.i64 (bShr IntKind.i64 (id : Int) (11 - (j : Int))) 1 = ((sideN (wayC (rootC k) id j) id : Nat) : Int) := by
  have hlt : id / 2 ^ (11 - j) < 2 ^ 63 := Nat.lt_of_le_of_lt (Nat.div_le_self _ _) (by omega)
  rw [show (11 : Int) - (j : Int) = ((11 - j : Nat) : Int) by omega, shr_nat _ _ (by omega), and_one _ hlt]
  have hd : (wayC (rootC k) id j).d = (j : Int) := by rw [wayC_d]; show (0 : Int) + j = j; omega
  have hs : szI ((wayC (rootC k) id j).d + 1) = ((2 ^ (11 - j) : Nat) : Int) := by
    rw [hd, show (j : Int) + 1 = ((j + 1 : Nat) : Int) by omega, szN _ (by omega)]; rw [show 12 - (j + 1) = 11 - j by omega]
  have e : sideI (wayC (rootC k) id j) id = ((id / 2 ^ (11 - j) % 2 : Nat) : Int) := by
    unfold sideI
    rw [hs, Int.tdiv_eq_ediv_of_nonneg (by omega), ← Int.natCast_ediv, Int.tmod_eq_emod_of_nonneg (Int.natCast_nonneg _)]
    omega
  unfold sideN
  rw [e]; rfl
set_option maxRecDepth 1000000 in
theorem lkf_fun (k : Nat → Nat) (hk : SmF k) (w : Nat) (hw : w < 65536) : Fun C P F_lkf [kyA k, .v (.int .u16 (w : Int))] [] (.sb true) [] := by
  refine in_lkf (W := w_lkf) rfl 0 (by simp) rfl (fun id h => absurd rfl h) fun D => ?_
  refine of_eq (lkf_A k w 0 _) ?_
  rw [tmod4096]
  obtain ⟨id, hid⟩ : ∃ id, id = w % 4096 := ⟨_, rfl⟩
  have hr : id < 4096 := by omega
  rw [← hid]
  have hkn : KOK k [] (newL k) := ⟨newL_KV _, hk⟩
  refine ⟨sanity_fun, trivial, (by first | omega | decide | (unfold I64; omega)), by decide, ?_, cut_ok (S2 := S_lkf4 k id k) (ent_of [(2, 2), (7, 7)] rfl (tm_cons rfl (sm_ptr rfl) (tm_cons rfl (sm_same rfl) (tm_cons rfl (sm_same rfl) (tm_cons rfl (sm_ptr rfl) tm_nil)))) (hp_cons rfl rfl (sm_same rfl) (hp_cons rfl rfl (sm_same rfl) hp_nil))) ?_⟩
  · exact sh32_t
  refine of_eq (lkf_C4 k id k 0 _) ?_
  refine loop_inv (W := w_lkf) ctx mixed ok_lkf_0 (I_lkf k id) (fun j => j ≤ 12) (fun j => 12 - j) 0 (Nat.zero_le _) ?_ fun j hj => ?_
  · exact ent_of [(2, 2), (7, 7)] rfl (tm_cons rfl (sm_ptr rfl) (tm_cons rfl (sm_same rfl) (tm_cons rfl (sm_same rfl) (tm_cons rfl (sm_ptr rfl) (tm_cons rfl (sm_same rfl) tm_nil))))) (hp_cons rfl rfl (sm_same rfl) (hp_cons rfl rfl (sm_same rfl) hp_nil))
  refine of_eq (lkf_L0 k id j 0 _) ⟨fun h => ?_, fun h => ?_⟩
  · simp only [decide_eq_true_eq] at h
    have hlt : j < 12 := by omega
    have hc := wayC_ok (root_ok hk) (id := (id : Int)) (by omega) (by omega) j (show j ≤ 12 by omega)
    have hd : (wayC (rootC k) id j).d < 12 := by rw [wayC_d]; show (0 : Int) + j < 12; omega
    obtain ⟨_, hs2⟩ := side_nat hc hd (id := (id : Int)) (by omega) (by omega)
    rw [side_bit k id hr j hlt]
    have hp := parts_ch (wayC (rootC k) id j).k (sideN (wayC (rootC k) id j) id) (by omega)
    have hf := rof_call (tag := 75) (ex := false) (by decide) (ch_small hc.2.2.2.2 (show sideN (wayC (rootC k) id j) id < 256 by omega)) (.inr rfl) (by rw [hp]; exact ch_len _ _)
    refine ⟨(by first | omega | decide | (unfold I64; omega)), (by first | omega | decide | (unfold I64; omega)), hf, fun _ _ => trivial, sh32_t, (by first | omega | decide | (unfold I64; omega)), round_end (j + 1) (by omega) ?_ (by dsimp only; omega)⟩
    rw [show (11 : Int) - (j : Int) - 1 = 11 - ((j + 1 : Nat) : Int) by omega]
    exact ent_of [(2, 2), (7, 7)] rfl (tm_cons rfl (sm_ptr rfl) (tm_cons rfl (sm_same rfl) (tm_cons rfl (sm_same rfl) (tm_cons rfl (sm_ptr rfl) (tm_cons rfl (sm_same rfl) tm_nil))))) (hp_cons rfl rfl (sm_same rfl) (hp_cons rfl rfl (sm_arr fun i _ => (by unfold wayK0; rw [hp]; rfl)) hp_nil))
  · simp only [decide_eq_false_iff_not] at h
    obtain rfl : j = 12 := by omega
    refine cut_ok (S2 := S_lkf4 k id (wayK0 k id 12)) (ent_of [(2, 2), (7, 7)] rfl (tm_cons rfl (sm_ptr rfl) (tm_cons rfl (sm_same rfl) (tm_cons rfl (sm_same rfl) (tm_cons rfl (sm_ptr rfl) tm_nil)))) (hp_cons rfl rfl (sm_same rfl) (hp_cons rfl rfl (sm_same rfl) hp_nil))) ?_
    refine of_eq (lkf_C8 k id (wayK0 k id 12) 0 _) ⟨fun _ => ?_, fun h => (by cases h)⟩
    have eL : [cAt (newL k) 0] = newL k := rfl
    rw [eL]
    have hin : inR (id : Int) = true := by simp [inR]; omega
    have hno : inX [] (id : Int) = false := rfl
    refine ⟨new_fun k, got_fun false (newL k) id (by have := hkn.n; omega) hkn.v, T32, fun _ _ => ⟨rfl, rfl⟩, ?_⟩
    rw [got_eq (a := keyR (newL k) id) (b := wayK0 k id 12) (x := keyE (newL k) id) (y := 0) (by rw [hkn.R, hin, hno]; rfl) (by rw [hkn.E, hin, hno]; rfl)]
    exact post_tmp rfl (sm_same rfl)
theorem lkf_law {x0 x1 : AV} (h0 : Typed C.tt 6 33 x0) (h1 : Typed C.tt 6 23 x1) : Fun C P F_lkf [x0, x1] [] (.sb true) [] := by
  obtain ⟨k, hk, f, rfl, hf⟩ := typed_u8s (m := 32) (e := 5) rfl rfl rfl h0
  obtain ⟨z, rfl, g1, g2⟩ := typed_int (k := .u16) rfl h1
  have g1' : (0 : Int) ≤ z := g1
  have g2' : z ≤ 65535 := g2
  have h := lkf_fun k hk z.toNat (by omega)
  rw [show ((z.toNat : Nat) : Int) = z by omega] at h
  exact h.sim ⟨.inr ⟨rfl, rfl, fun i hi => .inl (hf i hi)⟩, sm_same rfl, trivial⟩ trivial
end Go.Bu.W

