/- The walks: rotation, the table of rotations. -/
import Derived.Test.YtoaefniopgmoaaaDoorK14
import Derived.Test.YtoaefniopgmoaaaDoorK12
import Derived.Test.YtoaefniopgmoaaaDoorK7
namespace Go.Bu.W
open Sp
def crRotl : List AV → Option (AV × List (Nat × Blk))
 | [x, k] => some (u64 (rotl (asN x) (asN k % 64)), [])
 | _ => none
def crRound : List AV → Option (AV × List (Nat × Blk))
 | [.arr _ _ a, _, k] => some (.arr 25 1 (fun i => u64 (roundN (dN a) (asN k) i)), [])
 | _ => none
def turnsAV : AV := .arr 25 1 (fun i => i64 (turnsN i))
def crMix : List AV → List (Nat × Blk) → Option (AV × List (Nat × Blk))
 | [.dat n _ _ f, .ptr 0 [], .ptr 1 []], [(0, .c (.arr _ _ a)), (1, .c by')] => some (.tup [], [(0, .c (.arr 25 1 (fun i => u64 (mixN (dN a) (dN f) n i)))), (1, .c by')])
 | [.sl 0 [] 0 n _ _ _, .ptr 1 [], .ptr 2 []], [(0, .c (.arr k e f)), (1, .c (.arr _ _ a)), (2, .c by')] => some (.tup [], [(0, .c (.arr k e f)), (1, .c (.arr 25 1 (fun i => u64 (mixN (dN a) (dN f) n i)))), (2, .c by')])
 | _, _ => none
def sumAV (l : List Nat) : AV := .arr 32 1 (fun i => u8 (sumN l i))
def crSum : List AV → Option (AV × List (Nat × Blk))
 | [.dat n _ _ f] => some (sumAV (bytesL n f), [])
 | _ => none
abbrev ab (n : Nat) (f : Nat → Nat) : AV := .arr n 1 (fun i => u8 (f i))
abbrev db (n : Nat) (ex : Bool) (f : Nat → Nat) : AV := .dat n ex 1 (fun i => u8 (f i))
def crEight : List AV → Option (AV × List (Nat × Blk))
 | [x] => some (.sl 0 [] 0 8 8 false 1, [(0, .c (ab 8 (eightN (asI x))))])
 | _ => none
def crOf : List AV → Option (AV × List (Nat × Blk))
 | [x, .dat n _ _ f] => some (sumAV (ofBytes (asN x) (partsL n f)), [])
 | _ => none
def streamN (key : List Nat) (id : Int) (n : Nat) (i : Nat) : Nat := (streamL key id n).getD i 0
def crStream : List AV → Option (AV × List (Nat × Blk))
 | [.arr n _ f, id, k] => some (.sl 0 [] 0 (asI k).toNat (asI k).toNat false 1, [(0, .c (ab (asI k).toNat (streamN (bytesL n f) (asI id) (asI k).toNat)))])
 | _ => none
def sel (b : Bool) (x y : Option (AV × List (Nat × Blk))) : Option (AV × List (Nat × Blk)) := match b with | true => x | false => y
def crSp (g : Nat) (args : List AV) (H : List (Nat × Blk)) : Option (AV × List (Nat × Blk)) :=
 sel (Nat.beq g F_rotl) (crRotl args) <| sel (Nat.beq g F_round) (crRound args) <| sel (Nat.beq g F_turns) (some (turnsAV, [])) <|
 sel (Nat.beq g F_mix) (crMix args H) <| sel (Nat.beq g F_sum) (crSum args) <| sel (Nat.beq g F_eight) (crEight args) <|
 sel (Nat.beq g F_of) (crOf args) <| sel (Nat.beq g F_stream) (crStream args) none
def way (keep : List Nat) (nt : Nat) (cuts : List Nat) : Way := ⟨crSp, fun g => Nat.beq g F_mix, keep, [], nt, cuts, []⟩
def w_rotl : Way := way [0, 1, 4, 5] 17 []
def w_turns : Way := way [0, 1, 2, 3, 4, 5, 6] 29 []
def pos : Nat → Nat × Nat
 | 0 => (1, 0)
 | t + 1 => ((pos t).2, (2 * (pos t).1 + 3 * (pos t).2) % 5)
def tN : Nat → Nat → Nat
 | 0, _ => 0
 | t + 1, j => if j = (pos t).1 + 5 * (pos t).2 then (t + 1) * (t + 2) / 2 % 64 else tN t j
def I_turns (t : Nat) : St := { tm := [(0, .ptr 0 []), (1, .ptr 1 []), (2, i64 (pos t).1), (3, i64 (pos t).2), (5, i64 t)], hp := [(0, .c (.arr 25 1 (fun _ => .i 0))), (1, .c (.arr 25 1 (fun j => i64 (tN t j))))], seen := [0, 1] }
theorem rotl_A (x k : Nat) {D : Dom} (K : Nat) (Φ : Ex → St → Prop) :
 (Holds C P 17 D K Φ (vc C w_rotl b_rotl [] (start [u64 x, i64 k] []) lf)) =
 (((0 : Int) ≤ (bAnd IntKind.u64 (IntKind.wrap IntKind.u64 ((k : Nat) : Int)) (63 : Int))) ∧
 (((0 : Int) ≤ (IntKind.wrap IntKind.u64 ((64 : Int) - (bAnd IntKind.u64 (IntKind.wrap IntKind.u64 ((k : Nat) : Int)) (63 : Int))))) ∧
 (Φ Ex.ret (St.mk [((0 : Nat), (AV.v (Value.int IntKind.u64 ((x : Nat) : Int)))), ((1 : Nat), (AV.v (Value.int IntKind.i64 ((k : Nat) : Int)))), ((4 : Nat), (AV.v (Value.int IntKind.u64 (bOr IntKind.u64 (bShl IntKind.u64 ((x : Nat) : Int) (bAnd IntKind.u64 (IntKind.wrap IntKind.u64 ((k : Nat) : Int)) (63 : Int))) (bShr IntKind.u64 ((x : Nat) : Int) (IntKind.wrap IntKind.u64 ((64 : Int) - (bAnd IntKind.u64 (IntKind.wrap IntKind.u64 ((k : Nat) : Int)) (63 : Int))))))))), ((5 : Nat), (AV.v (Value.int IntKind.u64 (bAnd IntKind.u64 (IntKind.wrap IntKind.u64 ((k : Nat) : Int)) (63 : Int)))))] [] [])))) := by kernel_rfl
theorem and63 (k : Nat) : bAnd IntKind.u64 (IntKind.wrap IntKind.u64 (k : Int)) 63 = ((k % 64 : Nat) : Int) := by
 have h := and64 (a := k % 2 ^ 64) (b := 63) (Nat.mod_lt _ (by decide)) (by decide)
 rw [wrap_u64]
 refine h.trans ?_
 rw [show (63 : Nat) = 2 ^ 6 - 1 by rfl, Nat.and_two_pow_sub_one_eq_mod]
 congr 1
 omega
theorem rotl_fun (x k : Nat) (hx : x < 2 ^ 64) : Fun C P F_rotl [u64 x, i64 k] [] (u64 (rotl x (k % 64))) [] := by
 refine in_rotl (W := w_rotl) rfl 0 (by simp) rfl (fun id h => absurd rfl h) fun D => ?_
 refine of_eq (rotl_A x k 0 _) ?_
 have e2 : IntKind.wrap IntKind.u64 ((64 : Int) - ((k % 64 : Nat) : Int)) = ((64 - k % 64 : Nat) : Int) := by
  rw [show (64 : Int) - ((k % 64 : Nat) : Int) = ((64 - k % 64 : Nat) : Int) by omega, wrap_u64]
  congr 1; omega
 rw [and63, e2, shl64, shr64 _ _ hx, or64 (Nat.mod_lt _ (by decide)) (by rw [Nat.shiftRight_eq_div_pow]; exact Nat.lt_of_le_of_lt (Nat.div_le_self _ _) hx)]
 exact ⟨by omega, by omega, post_tmp rfl (sm_int rfl)⟩
theorem turns_A  {D : Dom} (K : Nat) (Φ : Ex → St → Prop) :
 (Holds C P 29 D K Φ (vc C w_turns b_turns [] (start [] []) lf)) =
 (LoopOK C P (29 : Nat) D K (bodyAt b_turns [1, 1, 1, 0, 1, 0]) (St.mk [((0 : Nat), (AV.ptr (0 : Nat) [])), ((1 : Nat), (AV.ptr (1 : Nat) [])), ((2 : Nat), (AV.v (Value.int IntKind.i64 (1 : Int)))), ((3 : Nat), (AV.v (Value.int IntKind.i64 (0 : Int)))), ((5 : Nat), (AV.v (Value.int IntKind.i64 (0 : Int))))] [((0 : Nat), (Blk.c (AV.arr (25 : Nat) (1 : Nat) (fun (x : Nat) => (AV.v (Value.int IntKind.i64 (0 : Int))))))), ((1 : Nat), (Blk.c (AV.arr (25 : Nat) (1 : Nat) (fun (x : Nat) => (AV.v (Value.int IntKind.i64 (0 : Int)))))))] [(1 : Nat), (0 : Nat)]) (fun (e : Ex) (S' : St) => Holds C P (29 : Nat) D K Φ (after C w_turns b_turns [1, 1, 1, 0, 1, 0] [] lf e S'))) := by kernel_rfl
noncomputable abbrev bd_turns_0 : Code := bodyAt (b_turns) [1, 1, 1, 0, 1, 0]
theorem ok_turns_0 : codeOK bd_turns_0 = true := by kernel_rfl
noncomputable abbrev rest_turns_0 (D : Dom) (K : Nat) (Φ : Ex → St → Prop) : Ex → St → Prop := fun e S' => Holds C P 29 D K Φ (after C w_turns (b_turns) [1, 1, 1, 0, 1, 0] [] lf e S')
theorem turns_L0 (t : Nat) {D : Dom} (K : Nat) (Φ : Ex → St → Prop) :
 (Holds C P 29 D K (RoundQ C 29 D K (I_turns) (fun t => t ≤ 24) (fun t => 24 - t) ((fun t => 24 - t) (t)) (rest_turns_0 D K Φ)) (vc C w_turns bd_turns_0 [] ((I_turns) (t)) lf)) =
 (((decide (((t : Nat) : Int) < (24 : Int))) = true → 
 ((I64 (((5 * (Prod.snd (pos t))) : Nat) : Int)) ∧
 ((I64 ((((Prod.fst (pos t)) + (5 * (Prod.snd (pos t)))) : Nat) : Int)) ∧
 ((I64 (((t + 1) : Nat) : Int)) ∧
 ((I64 (((t + 2) : Nat) : Int)) ∧
 ((I64 ((((t + 1) * (t + 2)) : Nat) : Int)) ∧
 (((2 : Int) ≠ (0 : Int)) ∧
 ((I64 (((((t + 1) * (t + 2)) / 2) : Nat) : Int)) ∧
 (((64 : Int) ≠ (0 : Int)) ∧
 ((((0 : Int) ≤ ((((Prod.fst (pos t)) + (5 * (Prod.snd (pos t)))) : Nat) : Int)) ∧ (((((Prod.fst (pos t)) + (5 * (Prod.snd (pos t)))) : Nat) : Int) < (25 : Int))) ∧
 ((I64 (((2 * (Prod.fst (pos t))) : Nat) : Int)) ∧
 ((I64 (((3 * (Prod.snd (pos t))) : Nat) : Int)) ∧
 ((I64 ((((2 * (Prod.fst (pos t))) + (3 * (Prod.snd (pos t)))) : Nat) : Int)) ∧
 (((5 : Int) ≠ (0 : Int)) ∧
 ((I64 (((t + 1) : Nat) : Int)) ∧
 ((RoundQ C 29 D K (I_turns) (fun t => t ≤ 24) (fun t => 24 - t) ((fun t => 24 - t) (t)) (rest_turns_0 D K Φ)) Ex.normal (St.mk [((0 : Nat), (AV.ptr (0 : Nat) [])), ((1 : Nat), (AV.ptr (1 : Nat) [])), ((2 : Nat), (AV.v (Value.int IntKind.i64 (((Prod.snd (pos t)) : Nat) : Int)))), ((3 : Nat), (AV.v (Value.int IntKind.i64 (((((2 * (Prod.fst (pos t))) + (3 * (Prod.snd (pos t)))) % 5) : Nat) : Int)))), ((4 : Nat), (AV.v (Value.int IntKind.i64 ((t : Nat) : Int)))), ((5 : Nat), (AV.v (Value.int IntKind.i64 (((t + 1) : Nat) : Int)))), ((6 : Nat), (AV.v (Value.bool true)))] [((0 : Nat), (Blk.c (AV.arr (25 : Nat) (1 : Nat) (fun (x : Nat) => (AV.v (Value.int IntKind.i64 (0 : Int))))))), ((1 : Nat), (Blk.c (AV.arr (25 : Nat) (1 : Nat) (fun (j : Nat) => (if (j = ((Prod.fst (pos t)) + (5 * (Prod.snd (pos t))))) then (AV.v (Value.int IntKind.i64 ((((((t + 1) * (t + 2)) / 2) % 64) : Nat) : Int))) else (AV.v (Value.int IntKind.i64 (((tN t j) : Nat) : Int))))))))] [(0 : Nat), (1 : Nat)]))))))))))))))))) ∧
 ((decide (((t : Nat) : Int) < (24 : Int))) = false → 
 ((((25 : Nat) = (25 : Nat)) ∧ (((1 : Nat) = (1 : Nat)) ∧ (∀ (i : Nat), ((i < (25 : Nat)) → ((true = true) ∧ (Bool.true = true)))))) ∧
 (Φ Ex.ret (St.mk [((0 : Nat), (AV.ptr (0 : Nat) [])), ((1 : Nat), (AV.ptr (1 : Nat) [])), ((2 : Nat), (AV.v (Value.int IntKind.i64 (((Prod.fst (pos t)) : Nat) : Int)))), ((3 : Nat), (AV.v (Value.int IntKind.i64 (((Prod.snd (pos t)) : Nat) : Int)))), ((5 : Nat), (AV.v (Value.int IntKind.i64 ((t : Nat) : Int)))), ((6 : Nat), (AV.v (Value.bool false)))] [((0 : Nat), (Blk.c (AV.arr (25 : Nat) (1 : Nat) (fun (j : Nat) => (AV.v (Value.int IntKind.i64 (((tN t j) : Nat) : Int))))))), ((1 : Nat), (Blk.c (AV.arr (25 : Nat) (1 : Nat) (fun (j : Nat) => (AV.v (Value.int IntKind.i64 (((tN t j) : Nat) : Int)))))))] [(0 : Nat), (1 : Nat)]))))) := by kernel_rfl
theorem pos_lt : ∀ t, (pos t).1 < 5 ∧ (pos t).2 < 5
 | 0 => by decide
 | t + 1 => ⟨(pos_lt t).2, Nat.mod_lt _ (by decide)⟩
theorem turns_fun : Fun C P F_turns [] [] turnsAV [] := by
 refine in_turns (W := w_turns) rfl 0 (by simp) rfl (fun id h => absurd rfl h) fun D => ?_
 refine of_eq (turns_A 0 _) ?_
 refine loop_inv (W := w_turns) ctx mixed ok_turns_0 I_turns (fun t => t ≤ 24) (fun t => 24 - t) 0 (by decide) ?_ fun t ht => ?_
 ·exact ent_of [(0, 0), (1, 1)] rfl (tm_cons rfl (sm_ptr rfl) (tm_cons rfl (sm_ptr rfl) (tm_cons rfl (sm_same rfl) (tm_cons rfl (sm_same rfl) (tm_cons rfl (sm_same rfl) tm_nil))))) (hp_cons rfl rfl (sm_same rfl) (hp_cons rfl rfl (sm_same rfl) hp_nil))
 ·refine of_eq (turns_L0 t 0 _) ?_
  have hp := pos_lt t
  refine ⟨fun h => ?_, fun h => ?_⟩
  ·simp only [decide_eq_true_eq] at h
   have h1 : t < 24 := by omega
   have ez : tN (t + 1) = fun j => if j = (pos t).1 + 5 * (pos t).2 then (t + 1) * (t + 2) / 2 % 64 else tN t j := rfl
   have h2 : (t + 1) * (t + 2) ≤ 24 * 25 := Nat.mul_le_mul (by omega) (by omega)
   generalize (t + 1) * (t + 2) = z at h2 ez
   refine ⟨(by first | omega | decide | (unfold I64; omega)), (by first | omega | decide | (unfold I64; omega)), (by first | omega | decide | (unfold I64; omega)), (by first | omega | decide | (unfold I64; omega)), (by first | omega | decide | (unfold I64; omega)), (by first | omega | decide | (unfold I64; omega)), (by first | omega | decide | (unfold I64; omega)), (by first | omega | decide | (unfold I64; omega)), (by first | omega | decide | (unfold I64; omega)), (by first | omega | decide | (unfold I64; omega)), (by first | omega | decide | (unfold I64; omega)), (by first | omega | decide | (unfold I64; omega)), (by first | omega | decide | (unfold I64; omega)), (by first | omega | decide | (unfold I64; omega)), ?_⟩
   refine round_end (t + 1) (by omega) (ent_of [(0, 0), (1, 1)] rfl (tm_cons rfl (sm_ptr rfl) (tm_cons rfl (sm_ptr rfl) (tm_cons rfl (sm_same rfl) (tm_cons rfl (sm_same rfl) (tm_cons rfl (sm_same rfl) tm_nil))))) (hp_cons rfl rfl (sm_same rfl) (hp_cons rfl rfl (sm_arr fun i hi => ?_) hp_nil))) (by dsimp only; omega)
   show _ = i64 (tN (t + 1) i)
   rw [ez]
   dsimp only
   split <;> rfl
  ·simp only [decide_eq_false_iff_not] at h
   obtain rfl : t = 24 := by omega
   refine ⟨⟨rfl, rfl, fun i hi => ⟨rfl, rfl⟩⟩, post_cell rfl rfl (sm_arr fun i hi => ?_) rfl⟩
   have : ∀ i : Fin 25, tN 24 i.1 = turnsN i.1 := by decide
   show i64 _ = i64 _
   rw [this ⟨i, hi⟩]
end Go.Bu.W
namespace Go.Bu.W
open Sp
def w_round : Way := way [0, 1, 2, 3, 4, 6, 7, 8, 9, 10, 11, 12, 13, 14, 15, 16, 17, 18, 19, 30, 31, 32, 69, 70] 104 []
abbrev aw (n : Nat) (g : Nat → Nat) : AV := .arr n 1 (fun i => u64 (g i))
abbrev zw (n : Nat) : AV := .arr n 1 (fun _ => .v (.int .u64 0))
def I_r0 (g : Nat → Nat) (k i : Nat) : St := { tm := [(2, u64 k), (3, .ptr 3 []), (4, .ptr 4 []), (6, .ptr 6 []), (7, .ptr 7 []), (17, aw 25 g), (18, i64 i)], hp := [(3, .c (aw 25 g)), (4, .c turnsAV), (6, .c (zw 25)), (7, .c (aw 5 (cN g i)))], seen := [3, 4, 6, 7] }
def I_r1 (g : Nat → Nat) (k i : Nat) : St := { tm := [(2, u64 k), (3, .ptr 3 []), (4, .ptr 4 []), (6, .ptr 6 []), (7, .ptr 7 []), (10, .ptr 10 []), (30, aw 25 g), (31, i64 i)], hp := [(3, .c (aw 25 g)), (4, .c turnsAV), (6, .c (zw 25)), (7, .c (aw 5 (cN g 25))), (10, .c (aw 25 (bN g i)))], seen := [3, 4, 6, 7, 10] }
def I_r2 (g : Nat → Nat) (k i : Nat) : St := { tm := [(2, u64 k), (3, .ptr 3 []), (6, .ptr 6 []), (10, .ptr 10 []), (69, i64 i)], hp := [(3, .c (aw 25 (fun j => if j < i then chi (bN g 25) j else g j))), (6, .c (zw 25)), (10, .c (aw 25 (bN g 25)))], seen := [3, 6, 10] }
theorem ones (b : Nat) (h : b < 2 ^ 64) : bXor IntKind.u64 18446744073709551615 (b : Int) = (((2 ^ 64 - 1) ^^^ b : Nat) : Int) := by
 have h := xor64 (a := 18446744073709551615) (by decide) h
 rw [show (2 ^ 64 - 1 : Nat) = 18446744073709551615 by decide]
 rw [← h]
 rfl
theorem round_A (g : Nat → Nat) (k : Nat) {D : Dom} (K : Nat) (Φ : Ex → St → Prop) :
 (Holds C P 104 D K Φ (vc C w_round b_round [] (start [aw 25 g, turnsAV, u64 k] []) lf)) =
 (LoopOK C P (104 : Nat) D K (bodyAt b_round [1, 1, 0, 1, 0]) (St.mk [((0 : Nat), (AV.arr (25 : Nat) (1 : Nat) (fun (i : Nat) => (AV.v (Value.int IntKind.u64 (((g i) : Nat) : Int)))))), ((1 : Nat), (AV.arr (25 : Nat) (1 : Nat) (fun (i : Nat) => (AV.v (Value.int IntKind.i64 (((Sp.turnsN i) : Nat) : Int)))))), ((2 : Nat), (AV.v (Value.int IntKind.u64 ((k : Nat) : Int)))), ((3 : Nat), (AV.ptr (3 : Nat) [])), ((4 : Nat), (AV.ptr (4 : Nat) [])), ((6 : Nat), (AV.ptr (6 : Nat) [])), ((7 : Nat), (AV.ptr (7 : Nat) [])), ((17 : Nat), (AV.arr (25 : Nat) (1 : Nat) (fun (i : Nat) => (AV.v (Value.int IntKind.u64 (((g i) : Nat) : Int)))))), ((18 : Nat), (AV.v (Value.int IntKind.i64 (0 : Int))))] [((3 : Nat), (Blk.c (AV.arr (25 : Nat) (1 : Nat) (fun (i : Nat) => (AV.v (Value.int IntKind.u64 (((g i) : Nat) : Int))))))), ((4 : Nat), (Blk.c (AV.arr (25 : Nat) (1 : Nat) (fun (i : Nat) => (AV.v (Value.int IntKind.i64 (((Sp.turnsN i) : Nat) : Int))))))), ((6 : Nat), (Blk.c (AV.arr (25 : Nat) (1 : Nat) (fun (x : Nat) => (AV.v (Value.int IntKind.u64 (0 : Int))))))), ((7 : Nat), (Blk.c (AV.arr (5 : Nat) (1 : Nat) (fun (x : Nat) => (AV.v (Value.int IntKind.u64 (0 : Int)))))))] [(7 : Nat), (6 : Nat), (4 : Nat), (3 : Nat)]) (fun (e : Ex) (S' : St) => Holds C P (104 : Nat) D K Φ (after C w_round b_round [1, 1, 0, 1, 0] [] lf e S'))) := by kernel_rfl
noncomputable abbrev bd_round_0 : Code := bodyAt (b_round) [1, 1, 0, 1, 0]
theorem ok_round_0 : codeOK bd_round_0 = true := by kernel_rfl
noncomputable abbrev rest_round_0 (D : Dom) (K : Nat) (Φ : Ex → St → Prop) : Ex → St → Prop := fun e S' => Holds C P 104 D K Φ (after C w_round (b_round) [1, 1, 0, 1, 0] [] lf e S')
theorem round_L0 (g : Nat → Nat) (k i : Nat) {D : Dom} (K : Nat) (Φ : Ex → St → Prop) :
 (Holds C P 104 D K (RoundQ C 104 D K (I_r0 g k) (fun i => i ≤ 25) (fun i => 25 - i) ((fun i => 25 - i) (i)) (rest_round_0 D K Φ)) (vc C w_round bd_round_0 [] ((I_r0 g k) (i)) lf)) =
 (((decide (((i : Nat) : Int) < (25 : Int))) = true → 
 ((((0 : Int) ≤ ((i : Nat) : Int)) ∧ (((i : Nat) : Int) < (25 : Int))) ∧
 (((5 : Int) ≠ (0 : Int)) ∧
 ((((0 : Int) ≤ (((i % 5) : Nat) : Int)) ∧ ((((i % 5) : Nat) : Int) < (5 : Int))) ∧
 ((((0 : Int) ≤ (((i % 5) : Nat) : Int)) ∧ ((((i % 5) : Nat) : Int) < (5 : Int))) ∧
 ((I64 (((i + 1) : Nat) : Int)) ∧
 ((RoundQ C 104 D K (I_r0 g k) (fun i => i ≤ 25) (fun i => 25 - i) ((fun i => 25 - i) (i)) (rest_round_0 D K Φ)) Ex.normal (St.mk [((2 : Nat), (AV.v (Value.int IntKind.u64 ((k : Nat) : Int)))), ((3 : Nat), (AV.ptr (3 : Nat) [])), ((4 : Nat), (AV.ptr (4 : Nat) [])), ((6 : Nat), (AV.ptr (6 : Nat) [])), ((7 : Nat), (AV.ptr (7 : Nat) [])), ((8 : Nat), (AV.v (Value.int IntKind.i64 ((i : Nat) : Int)))), ((9 : Nat), (AV.v (Value.int IntKind.u64 (((g i) : Nat) : Int)))), ((17 : Nat), (AV.arr (25 : Nat) (1 : Nat) (fun (i1 : Nat) => (AV.v (Value.int IntKind.u64 (((g i1) : Nat) : Int)))))), ((18 : Nat), (AV.v (Value.int IntKind.i64 (((i + 1) : Nat) : Int)))), ((19 : Nat), (AV.v (Value.bool true)))] [((3 : Nat), (Blk.c (AV.arr (25 : Nat) (1 : Nat) (fun (i1 : Nat) => (AV.v (Value.int IntKind.u64 (((g i1) : Nat) : Int))))))), ((4 : Nat), (Blk.c (AV.arr (25 : Nat) (1 : Nat) (fun (i1 : Nat) => (AV.v (Value.int IntKind.i64 (((Sp.turnsN i1) : Nat) : Int))))))), ((6 : Nat), (Blk.c (AV.arr (25 : Nat) (1 : Nat) (fun (x : Nat) => (AV.v (Value.int IntKind.u64 (0 : Int))))))), ((7 : Nat), (Blk.c (AV.arr (5 : Nat) (1 : Nat) (fun (j : Nat) => (if (j = (i % 5)) then (AV.v (Value.int IntKind.u64 (bXor IntKind.u64 (((Sp.cN g i (i % 5)) : Nat) : Int) (((g i) : Nat) : Int)))) else (AV.v (Value.int IntKind.u64 (((Sp.cN g i j) : Nat) : Int))))))))] [(3 : Nat), (4 : Nat), (6 : Nat), (7 : Nat)])))))))) ∧
 ((decide (((i : Nat) : Int) < (25 : Int))) = false → 
 (LoopOK C P (104 : Nat) D K (bodyAt b_round [1, 1, 1, 1, 0, 1, 0]) (St.mk [((2 : Nat), (AV.v (Value.int IntKind.u64 ((k : Nat) : Int)))), ((3 : Nat), (AV.ptr (3 : Nat) [])), ((4 : Nat), (AV.ptr (4 : Nat) [])), ((6 : Nat), (AV.ptr (6 : Nat) [])), ((7 : Nat), (AV.ptr (7 : Nat) [])), ((10 : Nat), (AV.ptr (10 : Nat) [])), ((17 : Nat), (AV.arr (25 : Nat) (1 : Nat) (fun (i1 : Nat) => (AV.v (Value.int IntKind.u64 (((g i1) : Nat) : Int)))))), ((18 : Nat), (AV.v (Value.int IntKind.i64 ((i : Nat) : Int)))), ((19 : Nat), (AV.v (Value.bool false))), ((30 : Nat), (AV.arr (25 : Nat) (1 : Nat) (fun (i1 : Nat) => (AV.v (Value.int IntKind.u64 (((g i1) : Nat) : Int)))))), ((31 : Nat), (AV.v (Value.int IntKind.i64 (0 : Int))))] [((3 : Nat), (Blk.c (AV.arr (25 : Nat) (1 : Nat) (fun (i1 : Nat) => (AV.v (Value.int IntKind.u64 (((g i1) : Nat) : Int))))))), ((4 : Nat), (Blk.c (AV.arr (25 : Nat) (1 : Nat) (fun (i1 : Nat) => (AV.v (Value.int IntKind.i64 (((Sp.turnsN i1) : Nat) : Int))))))), ((6 : Nat), (Blk.c (AV.arr (25 : Nat) (1 : Nat) (fun (x : Nat) => (AV.v (Value.int IntKind.u64 (0 : Int))))))), ((7 : Nat), (Blk.c (AV.arr (5 : Nat) (1 : Nat) (fun (i1 : Nat) => (AV.v (Value.int IntKind.u64 (((Sp.cN g i i1) : Nat) : Int))))))), ((10 : Nat), (Blk.c (AV.arr (25 : Nat) (1 : Nat) (fun (x : Nat) => (AV.v (Value.int IntKind.u64 (0 : Int)))))))] [(10 : Nat), (3 : Nat), (4 : Nat), (6 : Nat), (7 : Nat)]) (fun (e : Ex) (S' : St) => Holds C P (104 : Nat) D K Φ (after C w_round b_round [1, 1, 1, 1, 0, 1, 0] [] lf e S'))))) := by kernel_rfl
noncomputable abbrev bd_round_1 : Code := bodyAt (b_round) [1, 1, 1, 1, 0, 1, 0]
theorem ok_round_1 : codeOK bd_round_1 = true := by kernel_rfl
noncomputable abbrev rest_round_1 (D : Dom) (K : Nat) (Φ : Ex → St → Prop) : Ex → St → Prop := fun e S' => Holds C P 104 D K Φ (after C w_round (b_round) [1, 1, 1, 1, 0, 1, 0] [] lf e S')
theorem round_L1 (g : Nat → Nat) (k i : Nat) {D : Dom} (K : Nat) (Φ : Ex → St → Prop) :
 (Holds C P 104 D K (RoundQ C 104 D K (I_r1 g k) (fun i => i ≤ 25) (fun i => 25 - i) ((fun i => 25 - i) (i)) (rest_round_1 D K Φ)) (vc C w_round bd_round_1 [] ((I_r1 g k) (i)) lf)) =
 (((decide (((i : Nat) : Int) < (25 : Int))) = true → 
 ((((0 : Int) ≤ ((i : Nat) : Int)) ∧ (((i : Nat) : Int) < (25 : Int))) ∧
 (((5 : Int) ≠ (0 : Int)) ∧
 (((5 : Int) ≠ (0 : Int)) ∧
 ((I64 (((i / 5) : Nat) : Int)) ∧
 ((I64 ((((i % 5) + 4) : Nat) : Int)) ∧
 (((5 : Int) ≠ (0 : Int)) ∧
 ((((0 : Int) ≤ (((((i % 5) + 4) % 5) : Nat) : Int)) ∧ ((((((i % 5) + 4) % 5) : Nat) : Int) < (5 : Int))) ∧
 ((I64 ((((i % 5) + 1) : Nat) : Int)) ∧
 (((5 : Int) ≠ (0 : Int)) ∧
 ((((0 : Int) ≤ (((((i % 5) + 1) % 5) : Nat) : Int)) ∧ ((((((i % 5) + 1) % 5) : Nat) : Int) < (5 : Int))) ∧
 (Fun C P (80 : Nat) [(AV.v (Value.int IntKind.u64 (((Sp.cN g (25 : Nat) (((i % 5) + 1) % 5)) : Nat) : Int))), (AV.v (Value.int IntKind.i64 (1 : Int)))] [] (AV.v (Value.int IntKind.u64 (((Sp.rotl (Sp.cN g (25 : Nat) (((i % 5) + 1) % 5)) (1 : Nat)) : Nat) : Int))) [] ∧
 (True ∧
 ((I64 (((2 * (i % 5)) : Nat) : Int)) ∧
 ((I64 (((3 * (i / 5)) : Nat) : Int)) ∧
 ((I64 ((((2 * (i % 5)) + (3 * (i / 5))) : Nat) : Int)) ∧
 (((5 : Int) ≠ (0 : Int)) ∧
 ((I64 (((5 * (((2 * (i % 5)) + (3 * (i / 5))) % 5)) : Nat) : Int)) ∧
 ((I64 ((((i / 5) + (5 * (((2 * (i % 5)) + (3 * (i / 5))) % 5))) : Nat) : Int)) ∧
 ((((0 : Int) ≤ ((i : Nat) : Int)) ∧ (((i : Nat) : Int) < (25 : Int))) ∧
 (Fun C P (80 : Nat) [(AV.v (Value.int IntKind.u64 (bXor IntKind.u64 (((g i) : Nat) : Int) (bXor IntKind.u64 (((Sp.cN g (25 : Nat) (((i % 5) + 4) % 5)) : Nat) : Int) (((Sp.rotl (Sp.cN g (25 : Nat) (((i % 5) + 1) % 5)) (1 : Nat)) : Nat) : Int))))), (AV.v (Value.int IntKind.i64 (((Sp.turnsN i) : Nat) : Int)))] [] (AV.v (Value.int IntKind.u64 (((Sp.rotl (Int.toNat (bXor IntKind.u64 (((g i) : Nat) : Int) (bXor IntKind.u64 (((Sp.cN g (25 : Nat) (((i % 5) + 4) % 5)) : Nat) : Int) (((Sp.rotl (Sp.cN g (25 : Nat) (((i % 5) + 1) % 5)) (1 : Nat)) : Nat) : Int)))) ((Sp.turnsN i) % (64 : Nat))) : Nat) : Int))) [] ∧
 (True ∧
 ((((0 : Int) ≤ ((((i / 5) + (5 * (((2 * (i % 5)) + (3 * (i / 5))) % 5))) : Nat) : Int)) ∧ (((((i / 5) + (5 * (((2 * (i % 5)) + (3 * (i / 5))) % 5))) : Nat) : Int) < (25 : Int))) ∧
 ((I64 (((i + 1) : Nat) : Int)) ∧
 ((RoundQ C 104 D K (I_r1 g k) (fun i => i ≤ 25) (fun i => 25 - i) ((fun i => 25 - i) (i)) (rest_round_1 D K Φ)) Ex.normal (St.mk [((2 : Nat), (AV.v (Value.int IntKind.u64 ((k : Nat) : Int)))), ((3 : Nat), (AV.ptr (3 : Nat) [])), ((4 : Nat), (AV.ptr (4 : Nat) [])), ((6 : Nat), (AV.ptr (6 : Nat) [])), ((7 : Nat), (AV.ptr (7 : Nat) [])), ((10 : Nat), (AV.ptr (10 : Nat) [])), ((11 : Nat), (AV.v (Value.int IntKind.i64 ((i : Nat) : Int)))), ((12 : Nat), (AV.v (Value.int IntKind.u64 (bXor IntKind.u64 (((g i) : Nat) : Int) (bXor IntKind.u64 (((Sp.cN g (25 : Nat) (((i % 5) + 4) % 5)) : Nat) : Int) (((Sp.rotl (Sp.cN g (25 : Nat) (((i % 5) + 1) % 5)) (1 : Nat)) : Nat) : Int)))))), ((13 : Nat), (AV.v (Value.int IntKind.i64 (((i % 5) : Nat) : Int)))), ((14 : Nat), (AV.v (Value.int IntKind.i64 (((i / 5) : Nat) : Int)))), ((30 : Nat), (AV.arr (25 : Nat) (1 : Nat) (fun (i1 : Nat) => (AV.v (Value.int IntKind.u64 (((g i1) : Nat) : Int)))))), ((31 : Nat), (AV.v (Value.int IntKind.i64 (((i + 1) : Nat) : Int)))), ((32 : Nat), (AV.v (Value.bool true)))] [((3 : Nat), (Blk.c (AV.arr (25 : Nat) (1 : Nat) (fun (i1 : Nat) => (AV.v (Value.int IntKind.u64 (((g i1) : Nat) : Int))))))), ((4 : Nat), (Blk.c (AV.arr (25 : Nat) (1 : Nat) (fun (i1 : Nat) => (AV.v (Value.int IntKind.i64 (((Sp.turnsN i1) : Nat) : Int))))))), ((6 : Nat), (Blk.c (AV.arr (25 : Nat) (1 : Nat) (fun (x : Nat) => (AV.v (Value.int IntKind.u64 (0 : Int))))))), ((7 : Nat), (Blk.c (AV.arr (5 : Nat) (1 : Nat) (fun (i1 : Nat) => (AV.v (Value.int IntKind.u64 (((Sp.cN g (25 : Nat) i1) : Nat) : Int))))))), ((10 : Nat), (Blk.c (AV.arr (25 : Nat) (1 : Nat) (fun (j : Nat) => (if (j = ((i / 5) + (5 * (((2 * (i % 5)) + (3 * (i / 5))) % 5)))) then (AV.v (Value.int IntKind.u64 (((Sp.rotl (Int.toNat (bXor IntKind.u64 (((g i) : Nat) : Int) (bXor IntKind.u64 (((Sp.cN g (25 : Nat) (((i % 5) + 4) % 5)) : Nat) : Int) (((Sp.rotl (Sp.cN g (25 : Nat) (((i % 5) + 1) % 5)) (1 : Nat)) : Nat) : Int)))) ((Sp.turnsN i) % (64 : Nat))) : Nat) : Int))) else (AV.v (Value.int IntKind.u64 (((Sp.bN g i j) : Nat) : Int))))))))] [(3 : Nat), (4 : Nat), (6 : Nat), (7 : Nat), (10 : Nat)])))))))))))))))))))))))))) ∧
 ((decide (((i : Nat) : Int) < (25 : Int))) = false → 
 (LoopOK C P (104 : Nat) D K (bodyAt b_round [1, 1, 1, 1, 1, 0, 1, 0]) (St.mk [((2 : Nat), (AV.v (Value.int IntKind.u64 ((k : Nat) : Int)))), ((3 : Nat), (AV.ptr (3 : Nat) [])), ((4 : Nat), (AV.ptr (4 : Nat) [])), ((6 : Nat), (AV.ptr (6 : Nat) [])), ((7 : Nat), (AV.ptr (7 : Nat) [])), ((10 : Nat), (AV.ptr (10 : Nat) [])), ((30 : Nat), (AV.arr (25 : Nat) (1 : Nat) (fun (i1 : Nat) => (AV.v (Value.int IntKind.u64 (((g i1) : Nat) : Int)))))), ((31 : Nat), (AV.v (Value.int IntKind.i64 ((i : Nat) : Int)))), ((32 : Nat), (AV.v (Value.bool false))), ((69 : Nat), (AV.v (Value.int IntKind.i64 (0 : Int))))] [((3 : Nat), (Blk.c (AV.arr (25 : Nat) (1 : Nat) (fun (i1 : Nat) => (AV.v (Value.int IntKind.u64 (((g i1) : Nat) : Int))))))), ((4 : Nat), (Blk.c (AV.arr (25 : Nat) (1 : Nat) (fun (i1 : Nat) => (AV.v (Value.int IntKind.i64 (((Sp.turnsN i1) : Nat) : Int))))))), ((6 : Nat), (Blk.c (AV.arr (25 : Nat) (1 : Nat) (fun (x : Nat) => (AV.v (Value.int IntKind.u64 (0 : Int))))))), ((7 : Nat), (Blk.c (AV.arr (5 : Nat) (1 : Nat) (fun (i1 : Nat) => (AV.v (Value.int IntKind.u64 (((Sp.cN g (25 : Nat) i1) : Nat) : Int))))))), ((10 : Nat), (Blk.c (AV.arr (25 : Nat) (1 : Nat) (fun (i1 : Nat) => (AV.v (Value.int IntKind.u64 (((Sp.bN g i i1) : Nat) : Int)))))))] [(3 : Nat), (4 : Nat), (6 : Nat), (7 : Nat), (10 : Nat)]) (fun (e : Ex) (S' : St) => Holds C P (104 : Nat) D K Φ (after C w_round b_round [1, 1, 1, 1, 1, 0, 1, 0] [] lf e S'))))) := by kernel_rfl
noncomputable abbrev bd_round_2 : Code := bodyAt (b_round) [1, 1, 1, 1, 1, 0, 1, 0]
theorem ok_round_2 : codeOK bd_round_2 = true := by kernel_rfl
noncomputable abbrev rest_round_2 (D : Dom) (K : Nat) (Φ : Ex → St → Prop) : Ex → St → Prop := fun e S' => Holds C P 104 D K Φ (after C w_round (b_round) [1, 1, 1, 1, 1, 0, 1, 0] [] lf e S')
theorem round_L2 (g : Nat → Nat) (k i : Nat) {D : Dom} (K : Nat) (Φ : Ex → St → Prop) :
 (Holds C P 104 D K (RoundQ C 104 D K (I_r2 g k) (fun i => i ≤ 25) (fun i => 25 - i) ((fun i => 25 - i) (i)) (rest_round_2 D K Φ)) (vc C w_round bd_round_2 [] ((I_r2 g k) (i)) lf)) =
 (((decide (((i : Nat) : Int) < (25 : Int))) = true → 
 (((5 : Int) ≠ (0 : Int)) ∧
 ((I64 (((i / 5) : Nat) : Int)) ∧
 ((I64 ((((i / 5) * 5) : Nat) : Int)) ∧
 ((((0 : Int) ≤ ((i : Nat) : Int)) ∧ (((i : Nat) : Int) < (25 : Int))) ∧
 ((I64 (((i + 1) : Nat) : Int)) ∧
 (((5 : Int) ≠ (0 : Int)) ∧
 ((I64 (((((i / 5) * 5) + ((i + 1) % 5)) : Nat) : Int)) ∧
 ((((0 : Int) ≤ (((((i / 5) * 5) + ((i + 1) % 5)) : Nat) : Int)) ∧ ((((((i / 5) * 5) + ((i + 1) % 5)) : Nat) : Int) < (25 : Int))) ∧
 ((I64 (((i + 2) : Nat) : Int)) ∧
 (((5 : Int) ≠ (0 : Int)) ∧
 ((I64 (((((i / 5) * 5) + ((i + 2) % 5)) : Nat) : Int)) ∧
 ((((0 : Int) ≤ (((((i / 5) * 5) + ((i + 2) % 5)) : Nat) : Int)) ∧ ((((((i / 5) * 5) + ((i + 2) % 5)) : Nat) : Int) < (25 : Int))) ∧
 ((((0 : Int) ≤ ((i : Nat) : Int)) ∧ (((i : Nat) : Int) < (25 : Int))) ∧
 ((I64 (((i + 1) : Nat) : Int)) ∧
 ((RoundQ C 104 D K (I_r2 g k) (fun i => i ≤ 25) (fun i => 25 - i) ((fun i => 25 - i) (i)) (rest_round_2 D K Φ)) Ex.normal (St.mk [((2 : Nat), (AV.v (Value.int IntKind.u64 ((k : Nat) : Int)))), ((3 : Nat), (AV.ptr (3 : Nat) [])), ((6 : Nat), (AV.ptr (6 : Nat) [])), ((10 : Nat), (AV.ptr (10 : Nat) [])), ((15 : Nat), (AV.v (Value.int IntKind.i64 ((i : Nat) : Int)))), ((16 : Nat), (AV.v (Value.int IntKind.i64 ((((i / 5) * 5) : Nat) : Int)))), ((69 : Nat), (AV.v (Value.int IntKind.i64 (((i + 1) : Nat) : Int)))), ((70 : Nat), (AV.v (Value.bool true)))] [((3 : Nat), (Blk.c (AV.arr (25 : Nat) (1 : Nat) (fun (j : Nat) => (if (j = i) then (AV.v (Value.int IntKind.u64 (bXor IntKind.u64 (((Sp.bN g (25 : Nat) i) : Nat) : Int) (bAnd IntKind.u64 (bXor IntKind.u64 (18446744073709551615 : Int) (((Sp.bN g (25 : Nat) (((i / 5) * 5) + ((i + 1) % 5))) : Nat) : Int)) (((Sp.bN g (25 : Nat) (((i / 5) * 5) + ((i + 2) % 5))) : Nat) : Int))))) else (AV.v (Value.int IntKind.u64 (((if (j < i) then (Sp.chi (Sp.bN g (25 : Nat)) j) else (g j)) : Nat) : Int)))))))), ((6 : Nat), (Blk.c (AV.arr (25 : Nat) (1 : Nat) (fun (x : Nat) => (AV.v (Value.int IntKind.u64 (0 : Int))))))), ((10 : Nat), (Blk.c (AV.arr (25 : Nat) (1 : Nat) (fun (i1 : Nat) => (AV.v (Value.int IntKind.u64 (((Sp.bN g (25 : Nat) i1) : Nat) : Int)))))))] [(3 : Nat), (6 : Nat), (10 : Nat)]))))))))))))))))) ∧
 ((decide (((i : Nat) : Int) < (25 : Int))) = false → 
 ((((0 : Int) ≤ (0 : Int)) ∧ ((0 : Int) < (25 : Int))) ∧
 ((((0 : Int) ≤ (0 : Int)) ∧ ((0 : Int) < (25 : Int))) ∧
 ((((25 : Nat) = (25 : Nat)) ∧ (((1 : Nat) = (1 : Nat)) ∧ (∀ (i1 : Nat), ((i1 < (25 : Nat)) → (shp (AV.v (Value.int IntKind.u64 (0 : Int))) (if (i1 = (0 : Nat)) then (AV.v (Value.int IntKind.u64 (bXor IntKind.u64 (((if ((0 : Nat) < i) then (Sp.chi (Sp.bN g (25 : Nat)) (0 : Nat)) else (g (0 : Nat))) : Nat) : Int) ((k : Nat) : Int)))) else (AV.v (Value.int IntKind.u64 (((if (i1 < i) then (Sp.chi (Sp.bN g (25 : Nat)) i1) else (g i1)) : Nat) : Int))))))))) ∧
 (Φ Ex.ret (St.mk [((2 : Nat), (AV.v (Value.int IntKind.u64 ((k : Nat) : Int)))), ((3 : Nat), (AV.ptr (3 : Nat) [])), ((6 : Nat), (AV.ptr (6 : Nat) [])), ((10 : Nat), (AV.ptr (10 : Nat) [])), ((69 : Nat), (AV.v (Value.int IntKind.i64 ((i : Nat) : Int)))), ((70 : Nat), (AV.v (Value.bool false)))] [((3 : Nat), (Blk.c (AV.arr (25 : Nat) (1 : Nat) (fun (j : Nat) => (if (j = (0 : Nat)) then (AV.v (Value.int IntKind.u64 (bXor IntKind.u64 (((if ((0 : Nat) < i) then (Sp.chi (Sp.bN g (25 : Nat)) (0 : Nat)) else (g (0 : Nat))) : Nat) : Int) ((k : Nat) : Int)))) else (AV.v (Value.int IntKind.u64 (((if (j < i) then (Sp.chi (Sp.bN g (25 : Nat)) j) else (g j)) : Nat) : Int)))))))), ((6 : Nat), (Blk.c (AV.arr (25 : Nat) (1 : Nat) (fun (j : Nat) => (if (j = (0 : Nat)) then (AV.v (Value.int IntKind.u64 (bXor IntKind.u64 (((if ((0 : Nat) < i) then (Sp.chi (Sp.bN g (25 : Nat)) (0 : Nat)) else (g (0 : Nat))) : Nat) : Int) ((k : Nat) : Int)))) else (AV.v (Value.int IntKind.u64 (((if (j < i) then (Sp.chi (Sp.bN g (25 : Nat)) j) else (g j)) : Nat) : Int)))))))), ((10 : Nat), (Blk.c (AV.arr (25 : Nat) (1 : Nat) (fun (i1 : Nat) => (AV.v (Value.int IntKind.u64 (((Sp.bN g (25 : Nat) i1) : Nat) : Int)))))))] [(3 : Nat), (6 : Nat), (10 : Nat)]))))))) := by kernel_rfl
theorem round_fun (g : Nat → Nat) (k : Nat) (hg : ∀ i, i < 25 → g i < 2 ^ 64) (hk : k < 2 ^ 64) : Fun C P F_round [aw 25 g, turnsAV, u64 k] [] (aw 25 (roundN g k)) [] := by
 have hc : ∀ i, i ≤ 25 → ∀ j, cN g i j < 2 ^ 64 := cN_lt hg
 have hb : ∀ j, bN g 25 j < 2 ^ 64 := bN_lt hg 25 (Nat.le_refl _)
 refine in_round (W := w_round) rfl 0 (by simp) rfl (fun id h => absurd rfl h) fun D => ?_
 refine of_eq (round_A g k 0 _) ?_
 refine loop_inv (W := w_round) ctx mixed ok_round_0 (I_r0 g k) (fun i => i ≤ 25) (fun i => 25 - i) 0 (by decide) ?_ fun i hi => ?_
 ·exact ent_of [(3, 3), (4, 4), (6, 6), (7, 7)] rfl (tm_cons rfl (sm_same rfl) (tm_cons rfl (sm_ptr rfl) (tm_cons rfl (sm_ptr rfl) (tm_cons rfl (sm_ptr rfl) (tm_cons rfl (sm_ptr rfl) (tm_cons rfl (sm_same rfl) (tm_cons rfl (sm_same rfl) tm_nil)))))))
   (hp_cons rfl rfl (sm_same rfl) (hp_cons rfl rfl (sm_same rfl) (hp_cons rfl rfl (sm_same rfl) (hp_cons rfl rfl (sm_arr fun i hi => rfl) hp_nil))))
 refine of_eq (round_L0 g k i 0 _) ?_
 refine ⟨fun h => ?_, fun h => ?_⟩
 ·simp only [decide_eq_true_eq] at h
  refine ⟨(by first | omega | decide | (unfold I64; omega)), (by first | omega | decide | (unfold I64; omega)), (by first | omega | decide | (unfold I64; omega)), (by first | omega | decide | (unfold I64; omega)), (by first | omega | decide | (unfold I64; omega)), round_end (i + 1) (by omega) (ent_of [(3, 3), (4, 4), (6, 6), (7, 7)] rfl
   (tm_cons rfl (sm_same rfl) (tm_cons rfl (sm_ptr rfl) (tm_cons rfl (sm_ptr rfl) (tm_cons rfl (sm_ptr rfl) (tm_cons rfl (sm_ptr rfl) (tm_cons rfl (sm_same rfl) (tm_cons rfl (sm_same rfl) tm_nil)))))))
   (hp_cons rfl rfl (sm_same rfl) (hp_cons rfl rfl (sm_same rfl) (hp_cons rfl rfl (sm_same rfl) (hp_cons rfl rfl (sm_arr fun j hj => ?_) hp_nil))))) (by dsimp only; omega)⟩
  rw [xor64 (hc i hi _) (hg i (by omega))]
  show _ = u64 (if j = i % 5 then cN g i j ^^^ g i else cN g i j)
  split
  ·rename_i e; rw [e]
  ·rfl
 simp only [decide_eq_false_iff_not] at h
 obtain rfl : i = 25 := by omega
 refine loop_inv (W := w_round) ctx mixed ok_round_1 (I_r1 g k) (fun i => i ≤ 25) (fun i => 25 - i) 0 (by decide) ?_ fun i hi => ?_
 ·exact ent_of [(3, 3), (4, 4), (6, 6), (7, 7), (10, 10)] rfl (tm_cons rfl (sm_same rfl) (tm_cons rfl (sm_ptr rfl) (tm_cons rfl (sm_ptr rfl) (tm_cons rfl (sm_ptr rfl) (tm_cons rfl (sm_ptr rfl) (tm_cons rfl (sm_ptr rfl) (tm_cons rfl (sm_same rfl) (tm_cons rfl (sm_same rfl) tm_nil))))))))
   (hp_cons rfl rfl (sm_same rfl) (hp_cons rfl rfl (sm_same rfl) (hp_cons rfl rfl (sm_same rfl) (hp_cons rfl rfl (sm_same rfl) (hp_cons rfl rfl (sm_arr fun i hi => rfl) hp_nil)))))
 clear h
 refine of_eq (round_L1 g k i 0 _) ?_
 refine ⟨fun h => ?_, fun h => ?_⟩
 ·simp only [decide_eq_true_eq] at h
  have ht := theta_lt hg (i := i) (by omega)
  rw [xor64 (hc 25 (Nat.le_refl _) _) (rotl_lt (hc 25 (Nat.le_refl _) _)), xor64 (hg i (by omega)) (Nat.xor_lt_two_pow (hc 25 (Nat.le_refl _) _) (rotl_lt (hc 25 (Nat.le_refl _) _)))]
  refine ⟨(by first | omega | decide | (unfold I64; omega)), (by first | omega | decide | (unfold I64; omega)), (by first | omega | decide | (unfold I64; omega)), (by first | omega | decide | (unfold I64; omega)), (by first | omega | decide | (unfold I64; omega)), (by first | omega | decide | (unfold I64; omega)), (by first | omega | decide | (unfold I64; omega)), (by first | omega | decide | (unfold I64; omega)), (by first | omega | decide | (unfold I64; omega)), (by first | omega | decide | (unfold I64; omega)), rotl_fun _ 1 (hc 25 (Nat.le_refl _) _), trivial, (by first | omega | decide | (unfold I64; omega)), (by first | omega | decide | (unfold I64; omega)), (by first | omega | decide | (unfold I64; omega)), (by first | omega | decide | (unfold I64; omega)), (by first | omega | decide | (unfold I64; omega)), (by first | omega | decide | (unfold I64; omega)), (by first | omega | decide | (unfold I64; omega)), rotl_fun _ _ ht, trivial, (by first | omega | decide | (unfold I64; omega)), (by first | omega | decide | (unfold I64; omega)), round_end (i + 1) (by omega) (ent_of [(3, 3), (4, 4), (6, 6), (7, 7), (10, 10)] rfl
   (tm_cons rfl (sm_same rfl) (tm_cons rfl (sm_ptr rfl) (tm_cons rfl (sm_ptr rfl) (tm_cons rfl (sm_ptr rfl) (tm_cons rfl (sm_ptr rfl) (tm_cons rfl (sm_ptr rfl) (tm_cons rfl (sm_same rfl) (tm_cons rfl (sm_same rfl) tm_nil))))))))
   (hp_cons rfl rfl (sm_same rfl) (hp_cons rfl rfl (sm_same rfl) (hp_cons rfl rfl (sm_same rfl) (hp_cons rfl rfl (sm_same rfl) (hp_cons rfl rfl (sm_arr fun j hj => ?_) hp_nil)))))) (by dsimp only; omega)⟩
  show _ = u64 (if j = piN i then rotl (theta g i) (turnsN i) else bN g i j)
  rw [Nat.mod_eq_of_lt (turnsN_lt i)]
  unfold piN
  split <;> rfl
 simp only [decide_eq_false_iff_not] at h
 obtain rfl : i = 25 := by omega
 refine loop_inv (W := w_round) ctx mixed ok_round_2 (I_r2 g k) (fun i => i ≤ 25) (fun i => 25 - i) 0 (by decide) ?_ fun i hi => ?_
 ·exact ent_of [(3, 3), (6, 6), (10, 10)] rfl (tm_cons rfl (sm_same rfl) (tm_cons rfl (sm_ptr rfl) (tm_cons rfl (sm_ptr rfl) (tm_cons rfl (sm_ptr rfl) (tm_cons rfl (sm_same rfl) tm_nil)))))
   (hp_cons rfl rfl (sm_arr fun i hi => by simp) (hp_cons rfl rfl (sm_same rfl) (hp_cons rfl rfl (sm_same rfl) hp_nil)))
 clear h
 refine of_eq (round_L2 g k i 0 _) ?_
 refine ⟨fun h => ?_, fun h => ?_⟩
 ·simp only [decide_eq_true_eq] at h
  rw [ones _ (hb _), and64 (Nat.xor_lt_two_pow (by decide) (hb _)) (hb _), xor64 (hb _) (Nat.and_lt_two_pow _ (hb _))]
  refine ⟨(by first | omega | decide | (unfold I64; omega)), (by first | omega | decide | (unfold I64; omega)), (by first | omega | decide | (unfold I64; omega)), (by first | omega | decide | (unfold I64; omega)), (by first | omega | decide | (unfold I64; omega)), (by first | omega | decide | (unfold I64; omega)), (by first | omega | decide | (unfold I64; omega)), (by first | omega | decide | (unfold I64; omega)), (by first | omega | decide | (unfold I64; omega)), (by first | omega | decide | (unfold I64; omega)), (by first | omega | decide | (unfold I64; omega)), (by first | omega | decide | (unfold I64; omega)), (by first | omega | decide | (unfold I64; omega)), (by first | omega | decide | (unfold I64; omega)), round_end (i + 1) (by omega) (ent_of [(3, 3), (6, 6), (10, 10)] rfl
   (tm_cons rfl (sm_same rfl) (tm_cons rfl (sm_ptr rfl) (tm_cons rfl (sm_ptr rfl) (tm_cons rfl (sm_ptr rfl) (tm_cons rfl (sm_same rfl) tm_nil)))))
   (hp_cons rfl rfl (sm_arr fun j hj => ?_) (hp_cons rfl rfl (sm_same rfl) (hp_cons rfl rfl (sm_same rfl) hp_nil)))) (by dsimp only; omega)⟩
  show _ = u64 (if j < i + 1 then chi (bN g 25) j else g j)
  by_cases e : j = i
  ·subst e; rw [if_pos rfl, if_pos (by omega)]; rfl
  ·rw [if_neg e]
   by_cases e2 : j < i
   ·rw [if_pos e2, if_pos (by omega)]
   ·rw [if_neg e2, if_neg (by omega)]
 simp only [decide_eq_false_iff_not] at h
 obtain rfl : i = 25 := by omega
 rw [if_pos (by decide), xor64 (chi_lt hb 0) hk]
 refine ⟨(by first | omega | decide | (unfold I64; omega)), (by first | omega | decide | (unfold I64; omega)), ⟨rfl, rfl, fun i hi => ⟨rfl, ?_⟩⟩, post_cell rfl rfl (sm_arr fun j hj => ?_) rfl⟩
 ·by_cases e : i = 0 <;> simp [e, leaf]
 ·show _ = u64 (roundN g k j)
  unfold roundN
  by_cases e : j = 0
  ·rw [if_pos e, if_pos e]
  ·rw [if_neg e, if_neg e, if_pos hj]
end Go.Bu.W
namespace Go.Bu.W
open Sp
def w_mix : Way := way [0, 1, 2, 4, 5, 7, 8, 9, 10, 11, 28, 29, 30] 37 []
def I_md0 (ex : Bool) (g f : Nat → Nat) (n i : Nat) : St := { tm := [(1, .ptr 0 []), (2, .ptr 1 []), (8, db n ex f), (9, i64 n), (10, i64 i)], hp := [(0, .c (aw 25 (absN g f i))), (1, .c turnsAV)], seen := [0, 1] }
def I_md1 (g f : Nat → Nat) (n i : Nat) : St := { tm := [(1, .ptr 0 []), (2, .ptr 1 []), (28, wordsAV), (29, i64 i)], hp := [(0, .c (aw 25 (permN (absN g f n) i))), (1, .c turnsAV)], seen := [0, 1] }
def I_ms0 (g f : Nat → Nat) (n i : Nat) : St := { tm := [(1, .ptr 1 []), (2, .ptr 2 []), (8, .sl 0 [] 0 n n true 1), (9, i64 n), (10, i64 i)], hp := [(0, .c (ab n f)), (1, .c (aw 25 (absN g f i))), (2, .c turnsAV)], seen := [0, 1, 2] }
def I_ms1 (g f : Nat → Nat) (n i : Nat) : St := { tm := [(1, .ptr 1 []), (2, .ptr 2 []), (28, wordsAV), (29, i64 i)], hp := [(0, .c (ab n f)), (1, .c (aw 25 (permN (absN g f n) i))), (2, .c turnsAV)], seen := [0, 1, 2] }
theorem mix_A (ex : Bool) (g f : Nat → Nat) (n : Nat) {D : Dom} (K : Nat) (Φ : Ex → St → Prop) :
 (Holds C P 37 D K Φ (vc C w_mix b_mix [] (start [db n ex f, .ptr 0 [], .ptr 1 []] [(0, .c (aw 25 g)), (1, .c turnsAV)]) lf)) =
 (LoopOK C P (37 : Nat) D K (bodyAt b_mix [0, 1, 0]) (St.mk [((0 : Nat), (AV.dat n ex (1 : Nat) (fun (i : Nat) => (AV.v (Value.int IntKind.u8 (((f i) : Nat) : Int)))))), ((1 : Nat), (AV.ptr (0 : Nat) [])), ((2 : Nat), (AV.ptr (1 : Nat) [])), ((8 : Nat), (AV.dat n ex (1 : Nat) (fun (i : Nat) => (AV.v (Value.int IntKind.u8 (((f i) : Nat) : Int)))))), ((9 : Nat), (AV.v (Value.int IntKind.i64 ((n : Nat) : Int)))), ((10 : Nat), (AV.v (Value.int IntKind.i64 (0 : Int))))] [((0 : Nat), (Blk.c (AV.arr (25 : Nat) (1 : Nat) (fun (i : Nat) => (AV.v (Value.int IntKind.u64 (((g i) : Nat) : Int))))))), ((1 : Nat), (Blk.c (AV.arr (25 : Nat) (1 : Nat) (fun (i : Nat) => (AV.v (Value.int IntKind.i64 (((Sp.turnsN i) : Nat) : Int)))))))] [(0 : Nat), (1 : Nat)]) (fun (e : Ex) (S' : St) => Holds C P (37 : Nat) D K Φ (after C w_mix b_mix [0, 1, 0] [] lf e S'))) := by kernel_rfl
noncomputable abbrev bd_mix_0 : Code := bodyAt (b_mix) [0, 1, 0]
theorem ok_mix_0 : codeOK bd_mix_0 = true := by kernel_rfl
noncomputable abbrev rest_mix_0 (D : Dom) (K : Nat) (Φ : Ex → St → Prop) : Ex → St → Prop := fun e S' => Holds C P 37 D K Φ (after C w_mix (b_mix) [0, 1, 0] [] lf e S')
theorem mix_L0 (ex : Bool) (g f : Nat → Nat) (n i : Nat) {D : Dom} (K : Nat) (Φ : Ex → St → Prop) :
 (Holds C P 37 D K (RoundQ C 37 D K (I_md0 ex g f n) (fun i => i ≤ n) (fun i => n - i) ((fun i => n - i) (i)) (rest_mix_0 D K Φ)) (vc C w_mix bd_mix_0 [] ((I_md0 ex g f n) (i)) lf)) =
 (((decide (((i : Nat) : Int) < ((n : Nat) : Int))) = true → 
 ((((0 : Int) ≤ ((i : Nat) : Int)) ∧ (((i : Nat) : Int) < ((n : Nat) : Int))) ∧
 (((8 : Int) ≠ (0 : Int)) ∧
 ((I64 (((i / 8) : Nat) : Int)) ∧
 ((((0 : Int) ≤ (((i / 8) : Nat) : Int)) ∧ ((((i / 8) : Nat) : Int) < (25 : Int))) ∧
 (((8 : Int) ≠ (0 : Int)) ∧
 ((I64 (((8 * (i % 8)) : Nat) : Int)) ∧
 (((0 : Int) ≤ (((8 * (i % 8)) : Nat) : Int)) ∧
 ((((0 : Int) ≤ (((i / 8) : Nat) : Int)) ∧ ((((i / 8) : Nat) : Int) < (25 : Int))) ∧
 ((I64 (((i + 1) : Nat) : Int)) ∧
 ((RoundQ C 37 D K (I_md0 ex g f n) (fun i => i ≤ n) (fun i => n - i) ((fun i => n - i) (i)) (rest_mix_0 D K Φ)) Ex.normal (St.mk [((1 : Nat), (AV.ptr (0 : Nat) [])), ((2 : Nat), (AV.ptr (1 : Nat) [])), ((4 : Nat), (AV.v (Value.int IntKind.i64 ((i : Nat) : Int)))), ((5 : Nat), (AV.v (Value.int IntKind.u8 (((f i) : Nat) : Int)))), ((8 : Nat), (AV.dat n ex (1 : Nat) (fun (i1 : Nat) => (AV.v (Value.int IntKind.u8 (((f i1) : Nat) : Int)))))), ((9 : Nat), (AV.v (Value.int IntKind.i64 ((n : Nat) : Int)))), ((10 : Nat), (AV.v (Value.int IntKind.i64 (((i + 1) : Nat) : Int)))), ((11 : Nat), (AV.v (Value.bool true)))] [((0 : Nat), (Blk.c (AV.arr (25 : Nat) (1 : Nat) (fun (j : Nat) => (if (j = (i / 8)) then (AV.v (Value.int IntKind.u64 (bXor IntKind.u64 (((Sp.absN g f i (i / 8)) : Nat) : Int) (bShl IntKind.u64 (IntKind.wrap IntKind.u64 (((f i) : Nat) : Int)) (((8 * (i % 8)) : Nat) : Int))))) else (AV.v (Value.int IntKind.u64 (((Sp.absN g f i j) : Nat) : Int)))))))), ((1 : Nat), (Blk.c (AV.arr (25 : Nat) (1 : Nat) (fun (i1 : Nat) => (AV.v (Value.int IntKind.i64 (((Sp.turnsN i1) : Nat) : Int)))))))] [(0 : Nat), (1 : Nat)])))))))))))) ∧
 ((decide (((i : Nat) : Int) < ((n : Nat) : Int))) = false → 
 (LoopOK C P (37 : Nat) D K (bodyAt b_mix [1, 1, 0]) (St.mk [((1 : Nat), (AV.ptr (0 : Nat) [])), ((2 : Nat), (AV.ptr (1 : Nat) [])), ((8 : Nat), (AV.dat n ex (1 : Nat) (fun (i1 : Nat) => (AV.v (Value.int IntKind.u8 (((f i1) : Nat) : Int)))))), ((9 : Nat), (AV.v (Value.int IntKind.i64 ((n : Nat) : Int)))), ((10 : Nat), (AV.v (Value.int IntKind.i64 ((i : Nat) : Int)))), ((11 : Nat), (AV.v (Value.bool false))), ((28 : Nat), (AV.arr (24 : Nat) (1 : Nat) (fun (i1 : Nat) => (AV.v (Value.int IntKind.u64 (((Sp.wordsN i1) : Nat) : Int)))))), ((29 : Nat), (AV.v (Value.int IntKind.i64 (0 : Int))))] [((0 : Nat), (Blk.c (AV.arr (25 : Nat) (1 : Nat) (fun (i1 : Nat) => (AV.v (Value.int IntKind.u64 (((Sp.absN g f i i1) : Nat) : Int))))))), ((1 : Nat), (Blk.c (AV.arr (25 : Nat) (1 : Nat) (fun (i1 : Nat) => (AV.v (Value.int IntKind.i64 (((Sp.turnsN i1) : Nat) : Int)))))))] [(0 : Nat), (1 : Nat)]) (fun (e : Ex) (S' : St) => Holds C P (37 : Nat) D K Φ (after C w_mix b_mix [1, 1, 0] [] lf e S'))))) := by kernel_rfl
noncomputable abbrev bd_mix_1 : Code := bodyAt (b_mix) [1, 1, 0]
theorem ok_mix_1 : codeOK bd_mix_1 = true := by kernel_rfl
noncomputable abbrev rest_mix_1 (D : Dom) (K : Nat) (Φ : Ex → St → Prop) : Ex → St → Prop := fun e S' => Holds C P 37 D K Φ (after C w_mix (b_mix) [1, 1, 0] [] lf e S')
theorem mix_L1 (g f : Nat → Nat) (n i : Nat) {D : Dom} (K : Nat) (Φ : Ex → St → Prop) :
 (Holds C P 37 D K (RoundQ C 37 D K (I_md1 g f n) (fun i => i ≤ 24) (fun i => 24 - i) ((fun i => 24 - i) (i)) (rest_mix_1 D K Φ)) (vc C w_mix bd_mix_1 [] ((I_md1 g f n) (i)) lf)) =
 (((decide (((i : Nat) : Int) < (24 : Int))) = true → 
 ((((0 : Int) ≤ ((i : Nat) : Int)) ∧ (((i : Nat) : Int) < (24 : Int))) ∧
 (Fun C P (76 : Nat) [(AV.arr (25 : Nat) (1 : Nat) (fun (i1 : Nat) => (AV.v (Value.int IntKind.u64 (((Sp.permN (Sp.absN g f n) i i1) : Nat) : Int))))), (AV.arr (25 : Nat) (1 : Nat) (fun (i1 : Nat) => (AV.v (Value.int IntKind.i64 (((Sp.turnsN i1) : Nat) : Int))))), (AV.v (Value.int IntKind.u64 (((Sp.wordsN i) : Nat) : Int)))] [] (AV.arr (25 : Nat) (1 : Nat) (fun (i1 : Nat) => (AV.v (Value.int IntKind.u64 (((Sp.roundN (dN (fun (i2 : Nat) => (AV.v (Value.int IntKind.u64 (((Sp.permN (Sp.absN g f n) i i2) : Nat) : Int))))) (Sp.wordsN i) i1) : Nat) : Int))))) [] ∧
 ((∀ (i1 : Nat), ((i1 < (25 : Nat)) → True)) ∧
 ((((25 : Nat) = (25 : Nat)) ∧ (((1 : Nat) = (1 : Nat)) ∧ (∀ (i1 : Nat), ((i1 < (25 : Nat)) → ((Bool.true = true) ∧ (Bool.true = true)))))) ∧
 ((I64 (((i + 1) : Nat) : Int)) ∧
 ((RoundQ C 37 D K (I_md1 g f n) (fun i => i ≤ 24) (fun i => 24 - i) ((fun i => 24 - i) (i)) (rest_mix_1 D K Φ)) Ex.normal (St.mk [((1 : Nat), (AV.ptr (0 : Nat) [])), ((2 : Nat), (AV.ptr (1 : Nat) [])), ((7 : Nat), (AV.v (Value.int IntKind.u64 (((Sp.wordsN i) : Nat) : Int)))), ((28 : Nat), (AV.arr (24 : Nat) (1 : Nat) (fun (i1 : Nat) => (AV.v (Value.int IntKind.u64 (((Sp.wordsN i1) : Nat) : Int)))))), ((29 : Nat), (AV.v (Value.int IntKind.i64 (((i + 1) : Nat) : Int)))), ((30 : Nat), (AV.v (Value.bool true)))] [((0 : Nat), (Blk.c (AV.arr (25 : Nat) (1 : Nat) (fun (i1 : Nat) => (AV.v (Value.int IntKind.u64 (((Sp.roundN (dN (fun (i2 : Nat) => (AV.v (Value.int IntKind.u64 (((Sp.permN (Sp.absN g f n) i i2) : Nat) : Int))))) (Sp.wordsN i) i1) : Nat) : Int))))))), ((1 : Nat), (Blk.c (AV.arr (25 : Nat) (1 : Nat) (fun (i1 : Nat) => (AV.v (Value.int IntKind.i64 (((Sp.turnsN i1) : Nat) : Int)))))))] [(0 : Nat), (1 : Nat)])))))))) ∧
 ((decide (((i : Nat) : Int) < (24 : Int))) = false → 
 (Φ Ex.normal (St.mk [((1 : Nat), (AV.ptr (0 : Nat) [])), ((2 : Nat), (AV.ptr (1 : Nat) [])), ((28 : Nat), (AV.arr (24 : Nat) (1 : Nat) (fun (i1 : Nat) => (AV.v (Value.int IntKind.u64 (((Sp.wordsN i1) : Nat) : Int)))))), ((29 : Nat), (AV.v (Value.int IntKind.i64 ((i : Nat) : Int)))), ((30 : Nat), (AV.v (Value.bool false)))] [((0 : Nat), (Blk.c (AV.arr (25 : Nat) (1 : Nat) (fun (i1 : Nat) => (AV.v (Value.int IntKind.u64 (((Sp.permN (Sp.absN g f n) i i1) : Nat) : Int))))))), ((1 : Nat), (Blk.c (AV.arr (25 : Nat) (1 : Nat) (fun (i1 : Nat) => (AV.v (Value.int IntKind.i64 (((Sp.turnsN i1) : Nat) : Int)))))))] [(0 : Nat), (1 : Nat)])))) := by kernel_rfl
theorem mixs_A (g f : Nat → Nat) (n : Nat) {D : Dom} (K : Nat) (Φ : Ex → St → Prop) :
 (Holds C P 37 D K Φ (vc C w_mix b_mix [] (start [.sl 0 [] 0 n n true 1, .ptr 1 [], .ptr 2 []] [(0, .c (ab n f)), (1, .c (aw 25 g)), (2, .c turnsAV)]) lf)) =
 (LoopOK C P (37 : Nat) D K (bodyAt b_mix [0, 1, 0]) (St.mk [((0 : Nat), (AV.sl (0 : Nat) [] (0 : Nat) n n true (1 : Nat))), ((1 : Nat), (AV.ptr (1 : Nat) [])), ((2 : Nat), (AV.ptr (2 : Nat) [])), ((8 : Nat), (AV.sl (0 : Nat) [] (0 : Nat) n n true (1 : Nat))), ((9 : Nat), (AV.v (Value.int IntKind.i64 ((n : Nat) : Int)))), ((10 : Nat), (AV.v (Value.int IntKind.i64 (0 : Int))))] [((0 : Nat), (Blk.c (AV.arr n (1 : Nat) (fun (i : Nat) => (AV.v (Value.int IntKind.u8 (((f i) : Nat) : Int))))))), ((1 : Nat), (Blk.c (AV.arr (25 : Nat) (1 : Nat) (fun (i : Nat) => (AV.v (Value.int IntKind.u64 (((g i) : Nat) : Int))))))), ((2 : Nat), (Blk.c (AV.arr (25 : Nat) (1 : Nat) (fun (i : Nat) => (AV.v (Value.int IntKind.i64 (((Sp.turnsN i) : Nat) : Int)))))))] [(0 : Nat), (1 : Nat), (2 : Nat)]) (fun (e : Ex) (S' : St) => Holds C P (37 : Nat) D K Φ (after C w_mix b_mix [0, 1, 0] [] lf e S'))) := by kernel_rfl
theorem mixs_L0 (g f : Nat → Nat) (n i : Nat) {D : Dom} (K : Nat) (Φ : Ex → St → Prop) :
 (Holds C P 37 D K (RoundQ C 37 D K (I_ms0 g f n) (fun i => i ≤ n) (fun i => n - i) ((fun i => n - i) i) (rest_mix_0 D K Φ)) (vc C w_mix bd_mix_0 [] (I_ms0 g f n i) lf)) =
 (((decide (((i : Nat) : Int) < ((n : Nat) : Int))) = true → 
 ((((0 : Int) ≤ ((i : Nat) : Int)) ∧ (((i : Nat) : Int) < ((n : Nat) : Int))) ∧
 (((8 : Int) ≠ (0 : Int)) ∧
 ((I64 (((i / 8) : Nat) : Int)) ∧
 ((((0 : Int) ≤ (((i / 8) : Nat) : Int)) ∧ ((((i / 8) : Nat) : Int) < (25 : Int))) ∧
 (((8 : Int) ≠ (0 : Int)) ∧
 ((I64 (((8 * (i % 8)) : Nat) : Int)) ∧
 (((0 : Int) ≤ (((8 * (i % 8)) : Nat) : Int)) ∧
 ((((0 : Int) ≤ (((i / 8) : Nat) : Int)) ∧ ((((i / 8) : Nat) : Int) < (25 : Int))) ∧
 ((I64 (((i + 1) : Nat) : Int)) ∧
 ((RoundQ C 37 D K (I_ms0 g f n) (fun i => i ≤ n) (fun i => n - i) ((fun i => n - i) i) (rest_mix_0 D K Φ)) Ex.normal (St.mk [((1 : Nat), (AV.ptr (1 : Nat) [])), ((2 : Nat), (AV.ptr (2 : Nat) [])), ((4 : Nat), (AV.v (Value.int IntKind.i64 ((i : Nat) : Int)))), ((5 : Nat), (AV.v (Value.int IntKind.u8 (((f ((0 : Nat) + i)) : Nat) : Int)))), ((8 : Nat), (AV.sl (0 : Nat) [] (0 : Nat) n n true (1 : Nat))), ((9 : Nat), (AV.v (Value.int IntKind.i64 ((n : Nat) : Int)))), ((10 : Nat), (AV.v (Value.int IntKind.i64 (((i + 1) : Nat) : Int)))), ((11 : Nat), (AV.v (Value.bool true)))] [((0 : Nat), (Blk.c (AV.arr n (1 : Nat) (fun (i1 : Nat) => (AV.v (Value.int IntKind.u8 (((f i1) : Nat) : Int))))))), ((1 : Nat), (Blk.c (AV.arr (25 : Nat) (1 : Nat) (fun (j : Nat) => (if (j = (i / 8)) then (AV.v (Value.int IntKind.u64 (bXor IntKind.u64 (((Sp.absN g f i (i / 8)) : Nat) : Int) (bShl IntKind.u64 (IntKind.wrap IntKind.u64 (((f ((0 : Nat) + i)) : Nat) : Int)) (((8 * (i % 8)) : Nat) : Int))))) else (AV.v (Value.int IntKind.u64 (((Sp.absN g f i j) : Nat) : Int)))))))), ((2 : Nat), (Blk.c (AV.arr (25 : Nat) (1 : Nat) (fun (i1 : Nat) => (AV.v (Value.int IntKind.i64 (((Sp.turnsN i1) : Nat) : Int)))))))] [(0 : Nat), (1 : Nat), (2 : Nat)])))))))))))) ∧
 ((decide (((i : Nat) : Int) < ((n : Nat) : Int))) = false → 
 (LoopOK C P (37 : Nat) D K (bodyAt b_mix [1, 1, 0]) (St.mk [((1 : Nat), (AV.ptr (1 : Nat) [])), ((2 : Nat), (AV.ptr (2 : Nat) [])), ((8 : Nat), (AV.sl (0 : Nat) [] (0 : Nat) n n true (1 : Nat))), ((9 : Nat), (AV.v (Value.int IntKind.i64 ((n : Nat) : Int)))), ((10 : Nat), (AV.v (Value.int IntKind.i64 ((i : Nat) : Int)))), ((11 : Nat), (AV.v (Value.bool false))), ((28 : Nat), (AV.arr (24 : Nat) (1 : Nat) (fun (i1 : Nat) => (AV.v (Value.int IntKind.u64 (((Sp.wordsN i1) : Nat) : Int)))))), ((29 : Nat), (AV.v (Value.int IntKind.i64 (0 : Int))))] [((0 : Nat), (Blk.c (AV.arr n (1 : Nat) (fun (i1 : Nat) => (AV.v (Value.int IntKind.u8 (((f i1) : Nat) : Int))))))), ((1 : Nat), (Blk.c (AV.arr (25 : Nat) (1 : Nat) (fun (i1 : Nat) => (AV.v (Value.int IntKind.u64 (((Sp.absN g f i i1) : Nat) : Int))))))), ((2 : Nat), (Blk.c (AV.arr (25 : Nat) (1 : Nat) (fun (i1 : Nat) => (AV.v (Value.int IntKind.i64 (((Sp.turnsN i1) : Nat) : Int)))))))] [(0 : Nat), (1 : Nat), (2 : Nat)]) (fun (e : Ex) (S' : St) => Holds C P (37 : Nat) D K Φ (after C w_mix b_mix [1, 1, 0] [] lf e S'))))) := by kernel_rfl
theorem mixs_L1 (g f : Nat → Nat) (n i : Nat) {D : Dom} (K : Nat) (Φ : Ex → St → Prop) :
 (Holds C P 37 D K (RoundQ C 37 D K (I_ms1 g f n) (fun i => i ≤ 24) (fun i => 24 - i) ((fun i => 24 - i) i) (rest_mix_1 D K Φ)) (vc C w_mix bd_mix_1 [] (I_ms1 g f n i) lf)) =
 (((decide (((i : Nat) : Int) < (24 : Int))) = true → 
 ((((0 : Int) ≤ ((i : Nat) : Int)) ∧ (((i : Nat) : Int) < (24 : Int))) ∧
 (Fun C P (76 : Nat) [(AV.arr (25 : Nat) (1 : Nat) (fun (i1 : Nat) => (AV.v (Value.int IntKind.u64 (((Sp.permN (Sp.absN g f n) i i1) : Nat) : Int))))), (AV.arr (25 : Nat) (1 : Nat) (fun (i1 : Nat) => (AV.v (Value.int IntKind.i64 (((Sp.turnsN i1) : Nat) : Int))))), (AV.v (Value.int IntKind.u64 (((Sp.wordsN i) : Nat) : Int)))] [] (AV.arr (25 : Nat) (1 : Nat) (fun (i1 : Nat) => (AV.v (Value.int IntKind.u64 (((Sp.roundN (dN (fun (i2 : Nat) => (AV.v (Value.int IntKind.u64 (((Sp.permN (Sp.absN g f n) i i2) : Nat) : Int))))) (Sp.wordsN i) i1) : Nat) : Int))))) [] ∧
 ((∀ (i1 : Nat), ((i1 < (25 : Nat)) → True)) ∧
 ((((25 : Nat) = (25 : Nat)) ∧ (((1 : Nat) = (1 : Nat)) ∧ (∀ (i1 : Nat), ((i1 < (25 : Nat)) → ((Bool.true = true) ∧ (Bool.true = true)))))) ∧
 ((I64 (((i + 1) : Nat) : Int)) ∧
 ((RoundQ C 37 D K (I_ms1 g f n) (fun i => i ≤ 24) (fun i => 24 - i) ((fun i => 24 - i) i) (rest_mix_1 D K Φ)) Ex.normal (St.mk [((1 : Nat), (AV.ptr (1 : Nat) [])), ((2 : Nat), (AV.ptr (2 : Nat) [])), ((7 : Nat), (AV.v (Value.int IntKind.u64 (((Sp.wordsN i) : Nat) : Int)))), ((28 : Nat), (AV.arr (24 : Nat) (1 : Nat) (fun (i1 : Nat) => (AV.v (Value.int IntKind.u64 (((Sp.wordsN i1) : Nat) : Int)))))), ((29 : Nat), (AV.v (Value.int IntKind.i64 (((i + 1) : Nat) : Int)))), ((30 : Nat), (AV.v (Value.bool true)))] [((0 : Nat), (Blk.c (AV.arr n (1 : Nat) (fun (i1 : Nat) => (AV.v (Value.int IntKind.u8 (((f i1) : Nat) : Int))))))), ((1 : Nat), (Blk.c (AV.arr (25 : Nat) (1 : Nat) (fun (i1 : Nat) => (AV.v (Value.int IntKind.u64 (((Sp.roundN (dN (fun (i2 : Nat) => (AV.v (Value.int IntKind.u64 (((Sp.permN (Sp.absN g f n) i i2) : Nat) : Int))))) (Sp.wordsN i) i1) : Nat) : Int))))))), ((2 : Nat), (Blk.c (AV.arr (25 : Nat) (1 : Nat) (fun (i1 : Nat) => (AV.v (Value.int IntKind.i64 (((Sp.turnsN i1) : Nat) : Int)))))))] [(0 : Nat), (1 : Nat), (2 : Nat)])))))))) ∧
 ((decide (((i : Nat) : Int) < (24 : Int))) = false → 
 (Φ Ex.normal (St.mk [((1 : Nat), (AV.ptr (1 : Nat) [])), ((2 : Nat), (AV.ptr (2 : Nat) [])), ((28 : Nat), (AV.arr (24 : Nat) (1 : Nat) (fun (i1 : Nat) => (AV.v (Value.int IntKind.u64 (((Sp.wordsN i1) : Nat) : Int)))))), ((29 : Nat), (AV.v (Value.int IntKind.i64 ((i : Nat) : Int)))), ((30 : Nat), (AV.v (Value.bool false)))] [((0 : Nat), (Blk.c (AV.arr n (1 : Nat) (fun (i1 : Nat) => (AV.v (Value.int IntKind.u8 (((f i1) : Nat) : Int))))))), ((1 : Nat), (Blk.c (AV.arr (25 : Nat) (1 : Nat) (fun (i1 : Nat) => (AV.v (Value.int IntKind.u64 (((Sp.permN (Sp.absN g f n) i i1) : Nat) : Int))))))), ((2 : Nat), (Blk.c (AV.arr (25 : Nat) (1 : Nat) (fun (i1 : Nat) => (AV.v (Value.int IntKind.i64 (((Sp.turnsN i1) : Nat) : Int)))))))] [(0 : Nat), (1 : Nat), (2 : Nat)])))) := by kernel_rfl
theorem conv8 (b : Nat) (h : b < 256) : IntKind.wrap IntKind.u64 (b : Int) = (b : Int) := by rw [wrap_u64, Nat.mod_eq_of_lt (by omega)]
theorem abs_step (g f : Nat → Nat) (n i j : Nat) (hg : ∀ i, i < 25 → g i < 2 ^ 64) (hf : ∀ i, i < n → f i < 256) (hn : n ≤ 136) (h : i < n) :
  (if j = i / 8 then AV.v (.int .u64 (bXor IntKind.u64 ((absN g f i (i / 8) : Nat) : Int) (bShl IntKind.u64 (IntKind.wrap IntKind.u64 ((f i : Nat) : Int)) ((8 * (i % 8) : Nat) : Int)))) else AV.v (.int .u64 ((absN g f i j : Nat) : Int))) = u64 (absN g f (i + 1) j) := by
 rw [conv8 _ (hf i h), shl64, xor64 (absN_lt (hg _ (by omega)) i) (Nat.mod_lt _ (by decide))]
 simp only [absN]
 split
 ·rename_i e; rw [e]
 ·rfl
theorem mix_fun (ex : Bool) (g f : Nat → Nat) (n : Nat) (hn : n ≤ 136) (hg : ∀ i, i < 25 → g i < 2 ^ 64) (hf : ∀ i, i < n → f i < 256) :
  Fun C P F_mix [db n ex f, .ptr 0 [], .ptr 1 []] [(0, .c (aw 25 g)), (1, .c turnsAV)] (.tup []) [(0, .c (aw 25 (mixN g f n))), (1, .c turnsAV)] := by
 have hk : ∀ id, look [(0, Blk.c (aw 25 g)), (1, .c turnsAV)] id ≠ none → id < 2 := fun id h => by
  simp only [look] at h
  split at h
  ·rename_i e; have := beq_iff.1 e; omega
  ·split at h
   ·rename_i e; have := beq_iff.1 e; omega
   ·exact absurd rfl h
 refine in_mix (W := w_mix) rfl 2 (by simp) rfl hk fun D => ?_
 refine of_eq (mix_A ex g f n 2 _) ?_
 refine loop_inv (W := w_mix) ctx mixed ok_mix_0 (I_md0 ex g f n) (fun i => i ≤ n) (fun i => n - i) 0 (Nat.zero_le _) ?_ fun i hi => ?_
 ·exact ent_of [(0, 0), (1, 1)] rfl (tm_cons rfl (sm_ptr rfl) (tm_cons rfl (sm_ptr rfl) (tm_cons rfl (sm_same rfl) (tm_cons rfl (sm_same rfl) (tm_cons rfl (sm_same rfl) tm_nil))))) (hp_cons rfl rfl (sm_same rfl) (hp_cons rfl rfl (sm_same rfl) hp_nil))
 refine of_eq (mix_L0 ex g f n i 2 _) ⟨fun h => ?_, fun h => ?_⟩
 ·simp only [decide_eq_true_eq] at h
  refine ⟨(by first | omega | decide | (unfold I64; omega)), (by first | omega | decide | (unfold I64; omega)), (by first | omega | decide | (unfold I64; omega)), (by first | omega | decide | (unfold I64; omega)), (by first | omega | decide | (unfold I64; omega)), (by first | omega | decide | (unfold I64; omega)), (by first | omega | decide | (unfold I64; omega)), (by first | omega | decide | (unfold I64; omega)), (by first | omega | decide | (unfold I64; omega)), round_end (i + 1) (by omega) (ent_of [(0, 0), (1, 1)] rfl (tm_cons rfl (sm_ptr rfl) (tm_cons rfl (sm_ptr rfl) (tm_cons rfl (sm_same rfl) (tm_cons rfl (sm_same rfl) (tm_cons rfl (sm_same rfl) tm_nil))))) (hp_cons rfl rfl (sm_arr fun j hj => ?_) (hp_cons rfl rfl (sm_same rfl) hp_nil))) (by dsimp only; omega)⟩
  exact abs_step g f n i j hg hf hn (by omega)
 simp only [decide_eq_false_iff_not] at h
 obtain rfl : i = n := by omega
 have hp := permN_lt (a := absN g f i) (fun j hj => absN_lt (hg j hj) i)
 refine loop_inv (W := w_mix) ctx mixed ok_mix_1 (I_md1 g f i) (fun i => i ≤ 24) (fun i => 24 - i) 0 (by decide) ?_ fun t ht => ?_
 ·exact ent_of [(0, 0), (1, 1)] rfl (tm_cons rfl (sm_ptr rfl) (tm_cons rfl (sm_ptr rfl) (tm_cons rfl (sm_same rfl) (tm_cons rfl (sm_same rfl) tm_nil)))) (hp_cons rfl rfl (sm_same rfl) (hp_cons rfl rfl (sm_same rfl) hp_nil))
 clear h
 refine of_eq (mix_L1 g f i t 2 _) ⟨fun h => ?_, fun h => ?_⟩
 ·simp only [decide_eq_true_eq] at h
  refine ⟨(by first | omega | decide | (unfold I64; omega)), round_fun (permN (absN g f i) t) (wordsN t) (hp t) (wordsN_lt t), fun _ _ => trivial, ⟨rfl, rfl, fun _ _ => ⟨rfl, rfl⟩⟩, (by first | omega | decide | (unfold I64; omega)), round_end (t + 1) (by omega) (ent_of [(0, 0), (1, 1)] rfl (tm_cons rfl (sm_ptr rfl) (tm_cons rfl (sm_ptr rfl) (tm_cons rfl (sm_same rfl) (tm_cons rfl (sm_same rfl) tm_nil)))) (hp_cons rfl rfl (sm_same rfl) (hp_cons rfl rfl (sm_same rfl) hp_nil))) (by dsimp only; omega)⟩
 simp only [decide_eq_false_iff_not] at h
 obtain rfl : t = 24 := by omega
 exact funPost_of (S2 := { tm := [], hp := [(0, .c (aw 25 (mixN g f i))), (1, .c turnsAV)], seen := [0, 1] }) (by simp) (ent_of [(0, 0), (1, 1)] rfl tm_nil (hp_cons rfl rfl (sm_same rfl) (hp_cons rfl rfl (sm_same rfl) hp_nil))) rfl (.inl ⟨rfl, rfl⟩) fun _ _ h => h
theorem mixs_fun (g f : Nat → Nat) (n : Nat) (hn : n ≤ 136) (hg : ∀ i, i < 25 → g i < 2 ^ 64) (hf : ∀ i, i < n → f i < 256) :
  Fun C P F_mix [.sl 0 [] 0 n n true 1, .ptr 1 [], .ptr 2 []] [(0, .c (ab n f)), (1, .c (aw 25 g)), (2, .c turnsAV)] (.tup []) [(0, .c (ab n f)), (1, .c (aw 25 (mixN g f n))), (2, .c turnsAV)] := by
 have hk : ∀ id, look [(0, Blk.c (ab n f)), (1, .c (aw 25 g)), (2, .c turnsAV)] id ≠ none → id < 3 := fun id h => by
  simp only [look] at h
  split at h
  ·rename_i e; have := beq_iff.1 e; omega
  ·split at h
   ·rename_i e; have := beq_iff.1 e; omega
   ·split at h
    ·rename_i e; have := beq_iff.1 e; omega
    ·exact absurd rfl h
 refine in_mix (W := w_mix) rfl 3 (by simp) rfl hk fun D => ?_
 refine of_eq (mixs_A g f n 3 _) ?_
 refine loop_inv (W := w_mix) ctx mixed ok_mix_0 (I_ms0 g f n) (fun i => i ≤ n) (fun i => n - i) 0 (Nat.zero_le _) ?_ fun i hi => ?_
 ·exact ent_of [(0, 0), (1, 1), (2, 2)] rfl (tm_cons rfl (sm_ptr rfl) (tm_cons rfl (sm_ptr rfl) (tm_cons rfl (sm_sl rfl rfl (Nat.le_refl _) (Nat.le_refl _) (fun h => ⟨h, rfl⟩)) (tm_cons rfl (sm_same rfl) (tm_cons rfl (sm_same rfl) tm_nil))))) (hp_cons rfl rfl (sm_same rfl) (hp_cons rfl rfl (sm_same rfl) (hp_cons rfl rfl (sm_same rfl) hp_nil)))
 refine of_eq (mixs_L0 g f n i 3 _) ⟨fun h => ?_, fun h => ?_⟩
 ·simp only [decide_eq_true_eq] at h
  refine ⟨(by first | omega | decide | (unfold I64; omega)), (by first | omega | decide | (unfold I64; omega)), (by first | omega | decide | (unfold I64; omega)), (by first | omega | decide | (unfold I64; omega)), (by first | omega | decide | (unfold I64; omega)), (by first | omega | decide | (unfold I64; omega)), (by first | omega | decide | (unfold I64; omega)), (by first | omega | decide | (unfold I64; omega)), (by first | omega | decide | (unfold I64; omega)), round_end (i + 1) (by omega) (ent_of [(0, 0), (1, 1), (2, 2)] rfl (tm_cons rfl (sm_ptr rfl) (tm_cons rfl (sm_ptr rfl) (tm_cons rfl (sm_sl rfl rfl (Nat.le_refl _) (Nat.le_refl _) (fun h => ⟨h, rfl⟩)) (tm_cons rfl (sm_same rfl) (tm_cons rfl (sm_same rfl) tm_nil))))) (hp_cons rfl rfl (sm_same rfl) (hp_cons rfl rfl (sm_arr fun j hj => ?_) (hp_cons rfl rfl (sm_same rfl) hp_nil)))) (by dsimp only; omega)⟩
  rw [Nat.zero_add]
  exact abs_step g f n i j hg hf hn (by omega)
 simp only [decide_eq_false_iff_not] at h
 obtain rfl : i = n := by omega
 have hp := permN_lt (a := absN g f i) (fun j hj => absN_lt (hg j hj) i)
 refine loop_inv (W := w_mix) ctx mixed ok_mix_1 (I_ms1 g f i) (fun i => i ≤ 24) (fun i => 24 - i) 0 (by decide) ?_ fun t ht => ?_
 ·exact ent_of [(0, 0), (1, 1), (2, 2)] rfl (tm_cons rfl (sm_ptr rfl) (tm_cons rfl (sm_ptr rfl) (tm_cons rfl (sm_same rfl) (tm_cons rfl (sm_same rfl) tm_nil)))) (hp_cons rfl rfl (sm_same rfl) (hp_cons rfl rfl (sm_same rfl) (hp_cons rfl rfl (sm_same rfl) hp_nil)))
 clear h
 refine of_eq (mixs_L1 g f i t 3 _) ⟨fun h => ?_, fun h => ?_⟩
 ·simp only [decide_eq_true_eq] at h
  refine ⟨(by first | omega | decide | (unfold I64; omega)), round_fun (permN (absN g f i) t) (wordsN t) (hp t) (wordsN_lt t), fun _ _ => trivial, ⟨rfl, rfl, fun _ _ => ⟨rfl, rfl⟩⟩, (by first | omega | decide | (unfold I64; omega)), round_end (t + 1) (by omega) (ent_of [(0, 0), (1, 1), (2, 2)] rfl (tm_cons rfl (sm_ptr rfl) (tm_cons rfl (sm_ptr rfl) (tm_cons rfl (sm_same rfl) (tm_cons rfl (sm_same rfl) tm_nil)))) (hp_cons rfl rfl (sm_same rfl) (hp_cons rfl rfl (sm_same rfl) (hp_cons rfl rfl (sm_same rfl) hp_nil)))) (by dsimp only; omega)⟩
 simp only [decide_eq_false_iff_not] at h
 obtain rfl : t = 24 := by omega
 exact funPost_of (S2 := { tm := [], hp := [(0, .c (ab i f)), (1, .c (aw 25 (mixN g f i))), (2, .c turnsAV)], seen := [0, 1, 2] }) (by simp) (ent_of [(0, 0), (1, 1), (2, 2)] rfl tm_nil (hp_cons rfl rfl (sm_same rfl) (hp_cons rfl rfl (sm_same rfl) (hp_cons rfl rfl (sm_same rfl) hp_nil)))) rfl (.inl ⟨rfl, rfl⟩) fun _ _ h => h
end Go.Bu.W
namespace Go.Bu.W
open Sp
def w_sum : Way := way [0, 2, 3, 4, 5, 6, 7, 8, 13, 36, 37] 52 [9,10,11]
abbrev mixF : AV := .fn (.func F_mix) [.ptr 4 [], .ptr 3 []]
abbrev zb (n : Nat) : AV := .arr n 1 (fun _ => .v (.int .u8 0))
def rest (l : List Nat) (m : Nat) : Nat → Nat := fun i => l.getD (136 * m + i) 0
def I_s0 (ex : Bool) (l : List Nat) (m : Nat) : St := { tm := [(0, db (l.length - 136 * m) ex (rest l m)), (2, .ptr 2 []), (4, .ptr 4 []), (5, mixF)], hp := [(2, .c (zb 32)), (3, .c turnsAV), (4, .c (aw 25 (stN l m)))], seen := [2, 3, 4] }
def blk6 (l : List Nat) (i : Nat) : Nat := if i < l.length % 136 then l.getD (136 * (l.length / 136) + i) 0 else if i = l.length % 136 then 6 else 0
def blk0 (l : List Nat) (i : Nat) : Nat := if i < l.length % 136 then l.getD (136 * (l.length / 136) + i) 0 else 0
def S_9 (ex : Bool) (l : List Nat) : St := { tm := [(0, db (l.length % 136) ex (rest l (l.length / 136))), (2, .ptr 2 []), (4, .ptr 4 []), (5, mixF), (6, .sl 20 [] 0 136 136 true 1)], hp := [(2, .c (zb 32)), (3, .c turnsAV), (4, .c (aw 25 (stN l (l.length / 136)))), (20, .c (ab 136 (blk0 l)))], seen := [2, 3, 4, 20] }
def S_10 (l : List Nat) : St := { tm := [(2, .ptr 2 []), (4, .ptr 4 []), (5, mixF), (6, .sl 20 [] 0 136 136 true 1)], hp := [(2, .c (zb 32)), (3, .c turnsAV), (4, .c (aw 25 (stN l (l.length / 136)))), (20, .c (ab 136 (blk6 l)))], seen := [2, 3, 4, 20] }
def S_11 (l : List Nat) : St := { tm := [(2, .ptr 2 []), (4, .ptr 4 []), (5, mixF), (6, .sl 20 [] 0 136 136 true 1)], hp := [(2, .c (zb 32)), (3, .c turnsAV), (4, .c (aw 25 (stN l (l.length / 136)))), (20, .c (ab 136 (lastBlk l)))], seen := [2, 3, 4, 20] }
def endN (l : List Nat) : Nat → Nat := mixN (stN l (l.length / 136)) (lastBlk l) 136
def I_s1 (l : List Nat) (i : Nat) : St := { tm := [(2, .ptr 2 []), (4, .ptr 4 []), (7, .ptr 7 []), (36, i64 i)], hp := [(2, .c (zb 32)), (4, .c (aw 25 (endN l))), (7, .c (ab 32 (fun j => if j < i then sumN l j else 0)))], seen := [2, 4, 7] }
theorem sum_A (ex : Bool) (l : List Nat) {D : Dom} (K : Nat) (Φ : Ex → St → Prop) :
 (Holds C P 52 D K Φ (vc C w_sum b_sum [] (start [db l.length ex (fun i => l.getD i 0)] []) lf)) =
 (Fun C P (74 : Nat) [] [] (AV.arr (25 : Nat) (1 : Nat) (fun (i : Nat) => (AV.v (Value.int IntKind.i64 (((Sp.turnsN i) : Nat) : Int))))) [] ∧
 ((∀ (i : Nat), ((i < (25 : Nat)) → True)) ∧
 ((((25 : Nat) = (25 : Nat)) ∧ (((1 : Nat) = (1 : Nat)) ∧ (∀ (i : Nat), ((i < (25 : Nat)) → ((true = true) ∧ (Bool.true = true)))))) ∧
 (LoopOK C P (52 : Nat) D K (bodyAt b_sum [1, 1, 1, 1, 0, 0]) (St.mk [((0 : Nat), (AV.dat (List.length l) ex (1 : Nat) (fun (i : Nat) => (AV.v (Value.int IntKind.u8 (((List.getD l i (0 : Nat)) : Nat) : Int)))))), ((2 : Nat), (AV.ptr (2 : Nat) [])), ((3 : Nat), (AV.ptr (3 : Nat) [])), ((4 : Nat), (AV.ptr (4 : Nat) [])), ((5 : Nat), (AV.fn (Fn.func (75 : Nat)) [(AV.ptr (4 : Nat) []), (AV.ptr (3 : Nat) [])]))] [((2 : Nat), (Blk.c (AV.arr (32 : Nat) (1 : Nat) (fun (x : Nat) => (AV.v (Value.int IntKind.u8 (0 : Int))))))), ((3 : Nat), (Blk.c (AV.arr (25 : Nat) (1 : Nat) (fun (i : Nat) => (AV.v (Value.int IntKind.i64 (((Sp.turnsN i) : Nat) : Int))))))), ((4 : Nat), (Blk.c (AV.arr (25 : Nat) (1 : Nat) (fun (x : Nat) => (AV.v (Value.int IntKind.u64 (0 : Int)))))))] [(4 : Nat), (3 : Nat), (2 : Nat)]) (fun (e : Ex) (S' : St) => Holds C P (52 : Nat) D K Φ (after C w_sum b_sum [1, 1, 1, 1, 0, 0] [] lf e S')))))) := by kernel_rfl
noncomputable abbrev bd_sum_0 : Code := bodyAt (b_sum) [1, 1, 1, 1, 0, 0]
theorem ok_sum_0 : codeOK bd_sum_0 = true := by kernel_rfl
noncomputable abbrev rest_sum_0 (D : Dom) (K : Nat) (Φ : Ex → St → Prop) : Ex → St → Prop := fun e S' => Holds C P 52 D K Φ (after C w_sum (b_sum) [1, 1, 1, 1, 0, 0] [] lf e S')
theorem sum_L0 (ex : Bool) (l : List Nat) (m : Nat) {D : Dom} (K : Nat) (Φ : Ex → St → Prop) :
 (Holds C P 52 D K (RoundQ C 52 D K (I_s0 ex l) (fun m => m ≤ l.length / 136) (fun m => l.length / 136 - m) ((fun m => l.length / 136 - m) (m)) (rest_sum_0 D K Φ)) (vc C w_sum bd_sum_0 [] ((I_s0 ex l) (m)) lf)) =
 (((decide (((((List.length l) - ((136 : Nat) * m)) : Nat) : Int) ≥ (136 : Int))) = true → 
 ((((0 : Int) ≤ (0 : Int)) ∧ (((0 : Int) ≤ (136 : Int)) ∧ ((136 : Int) ≤ ((((List.length l) - ((136 : Nat) * m)) : Nat) : Int)))) ∧
 (Fun C P (75 : Nat) [(AV.dat (136 : Nat) Bool.false (1 : Nat) (fun (i : Nat) => (AV.v (Value.int IntKind.u8 (((rest l m ((0 : Nat) + i)) : Nat) : Int))))), (AV.ptr (0 : Nat) []), (AV.ptr (1 : Nat) [])] [((0 : Nat), (Blk.c (AV.arr (25 : Nat) (1 : Nat) (fun (i : Nat) => (AV.v (Value.int IntKind.u64 (((Sp.stN l m i) : Nat) : Int))))))), ((1 : Nat), (Blk.c (AV.arr (25 : Nat) (1 : Nat) (fun (i : Nat) => (AV.v (Value.int IntKind.i64 (((Sp.turnsN i) : Nat) : Int)))))))] (AV.tup []) [((0 : Nat), (Blk.c (AV.arr (25 : Nat) (1 : Nat) (fun (i : Nat) => (AV.v (Value.int IntKind.u64 (((Sp.mixN (dN (fun (i1 : Nat) => (AV.v (Value.int IntKind.u64 (((Sp.stN l m i1) : Nat) : Int))))) (dN (fun (i1 : Nat) => (AV.v (Value.int IntKind.u8 (((rest l m ((0 : Nat) + i1)) : Nat) : Int))))) (136 : Nat) i) : Nat) : Int))))))), ((1 : Nat), (Blk.c (AV.arr (25 : Nat) (1 : Nat) (fun (i : Nat) => (AV.v (Value.int IntKind.i64 (((Sp.turnsN i) : Nat) : Int)))))))] ∧
 ((((0 : Int) ≤ (136 : Int)) ∧ (((136 : Int) ≤ ((((List.length l) - ((136 : Nat) * m)) : Nat) : Int)) ∧ (((((List.length l) - ((136 : Nat) * m)) : Nat) : Int) ≤ ((((List.length l) - ((136 : Nat) * m)) : Nat) : Int)))) ∧
 ((RoundQ C 52 D K (I_s0 ex l) (fun m => m ≤ l.length / 136) (fun m => l.length / 136 - m) ((fun m => l.length / 136 - m) (m)) (rest_sum_0 D K Φ)) Ex.normal (St.mk [((0 : Nat), (AV.dat (((List.length l) - ((136 : Nat) * m)) - (136 : Nat)) ex (1 : Nat) (fun (i : Nat) => (AV.v (Value.int IntKind.u8 (((rest l m ((136 : Nat) + i)) : Nat) : Int)))))), ((2 : Nat), (AV.ptr (2 : Nat) [])), ((4 : Nat), (AV.ptr (4 : Nat) [])), ((5 : Nat), (AV.fn (Fn.func (75 : Nat)) [(AV.ptr (4 : Nat) []), (AV.ptr (3 : Nat) [])])), ((13 : Nat), (AV.v (Value.bool true)))] [((2 : Nat), (Blk.c (AV.arr (32 : Nat) (1 : Nat) (fun (x : Nat) => (AV.v (Value.int IntKind.u8 (0 : Int))))))), ((3 : Nat), (Blk.c (AV.arr (25 : Nat) (1 : Nat) (fun (i : Nat) => (AV.v (Value.int IntKind.i64 (((Sp.turnsN i) : Nat) : Int))))))), ((4 : Nat), (Blk.c (AV.arr (25 : Nat) (1 : Nat) (fun (i : Nat) => (AV.v (Value.int IntKind.u64 (((Sp.mixN (dN (fun (i1 : Nat) => (AV.v (Value.int IntKind.u64 (((Sp.stN l m i1) : Nat) : Int))))) (dN (fun (i1 : Nat) => (AV.v (Value.int IntKind.u8 (((rest l m ((0 : Nat) + i1)) : Nat) : Int))))) (136 : Nat) i) : Nat) : Int)))))))] [(2 : Nat), (3 : Nat), (4 : Nat)])))))) ∧
 ((decide (((((List.length l) - ((136 : Nat) * m)) : Nat) : Int) ≥ (136 : Int))) = false → 
 ((((0 : Int) ≤ (136 : Int)) ∧ ((136 : Int) ≤ (136 : Int))) ∧
 ((((136 : Int) ≤ (281474976710656 : Int)) ∧ ((136 : Int) ≤ (9223372036854775807 : Int))) ∧
 ((∀ (i : Nat), ((i < (Min.min ((List.length l) - ((136 : Nat) * m)) (136 : Nat))) → ((Bool.true = true) ∧ (Bool.true = true)))) ∧
 (∃ (S2 : St), Ent C (52 : Nat) D K (St.mk [((0 : Nat), (AV.dat ((List.length l) - ((136 : Nat) * m)) ex (1 : Nat) (fun (i : Nat) => (AV.v (Value.int IntKind.u8 (((rest l m i) : Nat) : Int)))))), ((2 : Nat), (AV.ptr (2 : Nat) [])), ((4 : Nat), (AV.ptr (4 : Nat) [])), ((5 : Nat), (AV.fn (Fn.func (75 : Nat)) [(AV.ptr (4 : Nat) []), (AV.ptr (3 : Nat) [])])), ((6 : Nat), (AV.sl (20 : Nat) [] (0 : Nat) (136 : Nat) (136 : Nat) true (1 : Nat))), ((13 : Nat), (AV.v (Value.bool false)))] [((2 : Nat), (Blk.c (AV.arr (32 : Nat) (1 : Nat) (fun (x : Nat) => (AV.v (Value.int IntKind.u8 (0 : Int))))))), ((3 : Nat), (Blk.c (AV.arr (25 : Nat) (1 : Nat) (fun (i : Nat) => (AV.v (Value.int IntKind.i64 (((Sp.turnsN i) : Nat) : Int))))))), ((4 : Nat), (Blk.c (AV.arr (25 : Nat) (1 : Nat) (fun (i : Nat) => (AV.v (Value.int IntKind.u64 (((Sp.stN l m i) : Nat) : Int))))))), ((20 : Nat), (Blk.c (AV.arr (136 : Nat) (1 : Nat) (lay (0 : Nat) (Min.min ((List.length l) - ((136 : Nat) * m)) (136 : Nat)) (fun (x : Nat) => (AV.v (Value.int IntKind.u8 (0 : Int)))) (fun (i : Nat) => (AV.v (Value.int IntKind.u8 (((rest l m i) : Nat) : Int))))))))] [(20 : Nat), (2 : Nat), (3 : Nat), (4 : Nat)]) S2 ∧ Holds C P (52 : Nat) D K Φ (cutAt C w_sum b_sum [1, 1, 1, 1, 1, 1, 1, 0] S2 (after C w_sum b_sum [1, 1, 1, 1, 1, 1, 1, 0] [] lf)))))))) := by kernel_rfl
theorem sum_C9 (ex : Bool) (l : List Nat) {D : Dom} (K : Nat) (Φ : Ex → St → Prop) :
 (Holds C P 52 D K Φ (cutAt C w_sum b_sum [1, 1, 1, 1, 1, 1, 1, 0] (S_9 ex l) (after C w_sum b_sum [1, 1, 1, 1, 1, 1, 1, 0] [] lf))) =
 ((((0 : Int) ≤ ((((List.length l) % (136 : Nat)) : Nat) : Int)) ∧ (((((List.length l) % (136 : Nat)) : Nat) : Int) < (136 : Int))) ∧
 (∃ (S2 : St), Ent C (52 : Nat) D K (St.mk [((0 : Nat), (AV.dat ((List.length l) % (136 : Nat)) ex (1 : Nat) (fun (i : Nat) => (AV.v (Value.int IntKind.u8 (((rest l ((List.length l) / (136 : Nat)) i) : Nat) : Int)))))), ((2 : Nat), (AV.ptr (2 : Nat) [])), ((4 : Nat), (AV.ptr (4 : Nat) [])), ((5 : Nat), (AV.fn (Fn.func (75 : Nat)) [(AV.ptr (4 : Nat) []), (AV.ptr (3 : Nat) [])])), ((6 : Nat), (AV.sl (20 : Nat) [] (0 : Nat) (136 : Nat) (136 : Nat) true (1 : Nat)))] [((2 : Nat), (Blk.c (AV.arr (32 : Nat) (1 : Nat) (fun (x : Nat) => (AV.v (Value.int IntKind.u8 (0 : Int))))))), ((3 : Nat), (Blk.c (AV.arr (25 : Nat) (1 : Nat) (fun (i : Nat) => (AV.v (Value.int IntKind.i64 (((Sp.turnsN i) : Nat) : Int))))))), ((4 : Nat), (Blk.c (AV.arr (25 : Nat) (1 : Nat) (fun (i : Nat) => (AV.v (Value.int IntKind.u64 (((Sp.stN l ((List.length l) / (136 : Nat)) i) : Nat) : Int))))))), ((20 : Nat), (Blk.c (AV.arr (136 : Nat) (1 : Nat) (fun (j : Nat) => (if (j = ((0 : Nat) + ((List.length l) % (136 : Nat)))) then (AV.v (Value.int IntKind.u8 (6 : Int))) else (AV.v (Value.int IntKind.u8 (((blk0 l j) : Nat) : Int))))))))] [(2 : Nat), (3 : Nat), (4 : Nat), (20 : Nat)]) S2 ∧ Holds C P (52 : Nat) D K Φ (cutAt C w_sum b_sum [1, 1, 1, 1, 1, 1, 1, 1, 0] S2 (after C w_sum b_sum [1, 1, 1, 1, 1, 1, 1, 1, 0] [] lf)))) := by kernel_rfl
theorem sum_C10 (l : List Nat) {D : Dom} (K : Nat) (Φ : Ex → St → Prop) :
 (Holds C P 52 D K Φ (cutAt C w_sum b_sum [1, 1, 1, 1, 1, 1, 1, 1, 0] (S_10 l) (after C w_sum b_sum [1, 1, 1, 1, 1, 1, 1, 1, 0] [] lf))) =
 ((((0 : Int) ≤ (135 : Int)) ∧ ((135 : Int) < (136 : Int))) ∧
 ((((0 : Int) ≤ (135 : Int)) ∧ ((135 : Int) < (136 : Int))) ∧
 (∃ (S2 : St), Ent C (52 : Nat) D K (St.mk [((2 : Nat), (AV.ptr (2 : Nat) [])), ((4 : Nat), (AV.ptr (4 : Nat) [])), ((5 : Nat), (AV.fn (Fn.func (75 : Nat)) [(AV.ptr (4 : Nat) []), (AV.ptr (3 : Nat) [])])), ((6 : Nat), (AV.sl (20 : Nat) [] (0 : Nat) (136 : Nat) (136 : Nat) true (1 : Nat)))] [((2 : Nat), (Blk.c (AV.arr (32 : Nat) (1 : Nat) (fun (x : Nat) => (AV.v (Value.int IntKind.u8 (0 : Int))))))), ((3 : Nat), (Blk.c (AV.arr (25 : Nat) (1 : Nat) (fun (i : Nat) => (AV.v (Value.int IntKind.i64 (((Sp.turnsN i) : Nat) : Int))))))), ((4 : Nat), (Blk.c (AV.arr (25 : Nat) (1 : Nat) (fun (i : Nat) => (AV.v (Value.int IntKind.u64 (((Sp.stN l ((List.length l) / (136 : Nat)) i) : Nat) : Int))))))), ((20 : Nat), (Blk.c (AV.arr (136 : Nat) (1 : Nat) (fun (j : Nat) => (if (j = (135 : Nat)) then (AV.v (Value.int IntKind.u8 (IntKind.wrap IntKind.u8 ((((blk6 l (135 : Nat)) + 128) : Nat) : Int)))) else (AV.v (Value.int IntKind.u8 (((blk6 l j) : Nat) : Int))))))))] [(2 : Nat), (3 : Nat), (4 : Nat), (20 : Nat)]) S2 ∧ Holds C P (52 : Nat) D K Φ (cutAt C w_sum b_sum [1, 1, 1, 1, 1, 1, 1, 1, 1, 0] S2 (after C w_sum b_sum [1, 1, 1, 1, 1, 1, 1, 1, 1, 0] [] lf))))) := by kernel_rfl
theorem sum_C11 (l : List Nat) {D : Dom} (K : Nat) (Φ : Ex → St → Prop) :
 (Holds C P 52 D K Φ (cutAt C w_sum b_sum [1, 1, 1, 1, 1, 1, 1, 1, 1, 0] (S_11 l) (after C w_sum b_sum [1, 1, 1, 1, 1, 1, 1, 1, 1, 0] [] lf))) =
 (Fun C P (75 : Nat) [(AV.sl (0 : Nat) [] (0 : Nat) (136 : Nat) (136 : Nat) true (1 : Nat)), (AV.ptr (1 : Nat) []), (AV.ptr (2 : Nat) [])] [((0 : Nat), (Blk.c (AV.arr (136 : Nat) (1 : Nat) (fun (i : Nat) => (AV.v (Value.int IntKind.u8 (((Sp.lastBlk l i) : Nat) : Int))))))), ((1 : Nat), (Blk.c (AV.arr (25 : Nat) (1 : Nat) (fun (i : Nat) => (AV.v (Value.int IntKind.u64 (((Sp.stN l ((List.length l) / (136 : Nat)) i) : Nat) : Int))))))), ((2 : Nat), (Blk.c (AV.arr (25 : Nat) (1 : Nat) (fun (i : Nat) => (AV.v (Value.int IntKind.i64 (((Sp.turnsN i) : Nat) : Int)))))))] (AV.tup []) [((0 : Nat), (Blk.c (AV.arr (136 : Nat) (1 : Nat) (fun (i : Nat) => (AV.v (Value.int IntKind.u8 (((Sp.lastBlk l i) : Nat) : Int))))))), ((1 : Nat), (Blk.c (AV.arr (25 : Nat) (1 : Nat) (fun (i : Nat) => (AV.v (Value.int IntKind.u64 (((Sp.mixN (dN (fun (i1 : Nat) => (AV.v (Value.int IntKind.u64 (((Sp.stN l ((List.length l) / (136 : Nat)) i1) : Nat) : Int))))) (dN (fun (i1 : Nat) => (AV.v (Value.int IntKind.u8 (((Sp.lastBlk l i1) : Nat) : Int))))) (136 : Nat) i) : Nat) : Int))))))), ((2 : Nat), (Blk.c (AV.arr (25 : Nat) (1 : Nat) (fun (i : Nat) => (AV.v (Value.int IntKind.i64 (((Sp.turnsN i) : Nat) : Int)))))))] ∧
 (LoopOK C P (52 : Nat) D K (bodyAt b_sum [1, 1, 1, 1, 1, 1, 1, 1, 1, 1, 1, 0, 1, 0]) (St.mk [((2 : Nat), (AV.ptr (2 : Nat) [])), ((4 : Nat), (AV.ptr (4 : Nat) [])), ((5 : Nat), (AV.fn (Fn.func (75 : Nat)) [(AV.ptr (4 : Nat) []), (AV.ptr (3 : Nat) [])])), ((6 : Nat), (AV.sl (20 : Nat) [] (0 : Nat) (136 : Nat) (136 : Nat) true (1 : Nat))), ((7 : Nat), (AV.ptr (7 : Nat) [])), ((36 : Nat), (AV.v (Value.int IntKind.i64 (0 : Int))))] [((2 : Nat), (Blk.c (AV.arr (32 : Nat) (1 : Nat) (fun (x : Nat) => (AV.v (Value.int IntKind.u8 (0 : Int))))))), ((3 : Nat), (Blk.c (AV.arr (25 : Nat) (1 : Nat) (fun (i : Nat) => (AV.v (Value.int IntKind.i64 (((Sp.turnsN i) : Nat) : Int))))))), ((4 : Nat), (Blk.c (AV.arr (25 : Nat) (1 : Nat) (fun (i : Nat) => (AV.v (Value.int IntKind.u64 (((Sp.mixN (dN (fun (i1 : Nat) => (AV.v (Value.int IntKind.u64 (((Sp.stN l ((List.length l) / (136 : Nat)) i1) : Nat) : Int))))) (dN (fun (i1 : Nat) => (AV.v (Value.int IntKind.u8 (((Sp.lastBlk l i1) : Nat) : Int))))) (136 : Nat) i) : Nat) : Int))))))), ((7 : Nat), (Blk.c (AV.arr (32 : Nat) (1 : Nat) (fun (x : Nat) => (AV.v (Value.int IntKind.u8 (0 : Int))))))), ((20 : Nat), (Blk.c (AV.arr (136 : Nat) (1 : Nat) (fun (i : Nat) => (AV.v (Value.int IntKind.u8 (((Sp.lastBlk l i) : Nat) : Int)))))))] [(7 : Nat), (2 : Nat), (3 : Nat), (4 : Nat), (20 : Nat)]) (fun (e : Ex) (S' : St) => Holds C P (52 : Nat) D K Φ (after C w_sum b_sum [1, 1, 1, 1, 1, 1, 1, 1, 1, 1, 1, 0, 1, 0] [] lf e S')))) := by kernel_rfl
noncomputable abbrev bd_sum_1 : Code := bodyAt (b_sum) [1, 1, 1, 1, 1, 1, 1, 1, 1, 1, 1, 0, 1, 0]
theorem ok_sum_1 : codeOK bd_sum_1 = true := by kernel_rfl
noncomputable abbrev rest_sum_1 (D : Dom) (K : Nat) (Φ : Ex → St → Prop) : Ex → St → Prop := fun e S' => Holds C P 52 D K Φ (after C w_sum (b_sum) [1, 1, 1, 1, 1, 1, 1, 1, 1, 1, 1, 0, 1, 0] [] lf e S')
theorem sum_L1 (l : List Nat) (i : Nat) {D : Dom} (K : Nat) (Φ : Ex → St → Prop) :
 (Holds C P 52 D K (RoundQ C 52 D K (I_s1 l) (fun i => i ≤ 32) (fun i => 32 - i) ((fun i => 32 - i) (i)) (rest_sum_1 D K Φ)) (vc C w_sum bd_sum_1 [] ((I_s1 l) (i)) lf)) =
 (((decide (((i : Nat) : Int) < (32 : Int))) = true → 
 (((8 : Int) ≠ (0 : Int)) ∧
 ((I64 (((i / 8) : Nat) : Int)) ∧
 ((((0 : Int) ≤ (((i / 8) : Nat) : Int)) ∧ ((((i / 8) : Nat) : Int) < (25 : Int))) ∧
 (((8 : Int) ≠ (0 : Int)) ∧
 ((I64 (((8 * (i % 8)) : Nat) : Int)) ∧
 (((0 : Int) ≤ (((8 * (i % 8)) : Nat) : Int)) ∧
 ((((0 : Int) ≤ ((i : Nat) : Int)) ∧ (((i : Nat) : Int) < (32 : Int))) ∧
 ((I64 (((i + 1) : Nat) : Int)) ∧
 ((RoundQ C 52 D K (I_s1 l) (fun i => i ≤ 32) (fun i => 32 - i) ((fun i => 32 - i) (i)) (rest_sum_1 D K Φ)) Ex.normal (St.mk [((2 : Nat), (AV.ptr (2 : Nat) [])), ((4 : Nat), (AV.ptr (4 : Nat) [])), ((7 : Nat), (AV.ptr (7 : Nat) [])), ((8 : Nat), (AV.v (Value.int IntKind.i64 ((i : Nat) : Int)))), ((36 : Nat), (AV.v (Value.int IntKind.i64 (((i + 1) : Nat) : Int)))), ((37 : Nat), (AV.v (Value.bool true)))] [((2 : Nat), (Blk.c (AV.arr (32 : Nat) (1 : Nat) (fun (x : Nat) => (AV.v (Value.int IntKind.u8 (0 : Int))))))), ((4 : Nat), (Blk.c (AV.arr (25 : Nat) (1 : Nat) (fun (i1 : Nat) => (AV.v (Value.int IntKind.u64 (((endN l i1) : Nat) : Int))))))), ((7 : Nat), (Blk.c (AV.arr (32 : Nat) (1 : Nat) (fun (j : Nat) => (if (j = i) then (AV.v (Value.int IntKind.u8 (IntKind.wrap IntKind.u8 (bShr IntKind.u64 (((endN l (i / 8)) : Nat) : Int) (((8 * (i % 8)) : Nat) : Int))))) else (AV.v (Value.int IntKind.u8 (((if (j < i) then (Sp.sumN l j) else (0 : Nat)) : Nat) : Int))))))))] [(2 : Nat), (4 : Nat), (7 : Nat)]))))))))))) ∧
 ((decide (((i : Nat) : Int) < (32 : Int))) = false → 
 ((((32 : Nat) = (32 : Nat)) ∧ (((1 : Nat) = (1 : Nat)) ∧ (∀ (i1 : Nat), ((i1 < (32 : Nat)) → ((true = true) ∧ (Bool.true = true)))))) ∧
 (Φ Ex.ret (St.mk [((2 : Nat), (AV.ptr (2 : Nat) [])), ((4 : Nat), (AV.ptr (4 : Nat) [])), ((7 : Nat), (AV.ptr (7 : Nat) [])), ((36 : Nat), (AV.v (Value.int IntKind.i64 ((i : Nat) : Int)))), ((37 : Nat), (AV.v (Value.bool false)))] [((2 : Nat), (Blk.c (AV.arr (32 : Nat) (1 : Nat) (fun (i1 : Nat) => (AV.v (Value.int IntKind.u8 (((if (i1 < i) then (Sp.sumN l i1) else (0 : Nat)) : Nat) : Int))))))), ((4 : Nat), (Blk.c (AV.arr (25 : Nat) (1 : Nat) (fun (i1 : Nat) => (AV.v (Value.int IntKind.u64 (((endN l i1) : Nat) : Int))))))), ((7 : Nat), (Blk.c (AV.arr (32 : Nat) (1 : Nat) (fun (i1 : Nat) => (AV.v (Value.int IntKind.u8 (((if (i1 < i) then (Sp.sumN l i1) else (0 : Nat)) : Nat) : Int)))))))] [(2 : Nat), (4 : Nat), (7 : Nat)]))))) := by kernel_rfl
theorem getD_lt {l : List Nat} {b : Nat} (h : ∀ x ∈ l, x < b) (hb : 0 < b) (i : Nat) : l.getD i 0 < b := by
 rw [List.getD_eq_getElem?_getD]
 cases hx : l[i]? with
 | none => exact hb
 | some x => exact h x (List.mem_of_getElem? hx)
theorem blk6_lt {l : List Nat} (h : ∀ x ∈ l, x < 256) (i : Nat) : blk6 l i < 256 := by
 unfold blk6
 split
 ·exact getD_lt h (by decide) _
 ·split <;> decide
theorem last_eq (l : List Nat) (i : Nat) : lastBlk l i = blk6 l i + (if i = 135 then 128 else 0) := rfl
theorem last_lt {l : List Nat} (h : ∀ x ∈ l, x < 256) (i : Nat) (hi : i < 136) : lastBlk l i < 256 := by
 rw [last_eq]
 by_cases e : i = 135
 ·subst e
  have hm : l.length % 136 < 136 := Nat.mod_lt _ (by decide)
  have : blk6 l 135 < 128 := by
   unfold blk6
   rw [if_neg (by omega)]
   split <;> decide
  rw [if_pos rfl]; omega
 ·rw [if_neg e]; exact blk6_lt h i
theorem sum_fun (ex : Bool) (l : List Nat) (hl : ∀ x ∈ l, x < 256) (hn : l.length < 2 ^ 62) : Fun C P F_sum [db l.length ex (fun i => l.getD i 0)] [] (sumAV l) [] := by
 refine in_sum (W := w_sum) rfl 0 (by simp) rfl (fun id h => absurd rfl h) fun D => ?_
 refine of_eq (sum_A ex l 0 _) ⟨turns_fun, fun _ _ => trivial, ⟨rfl, rfl, fun _ _ => ⟨rfl, rfl⟩⟩, ?_⟩
 refine loop_inv (W := w_sum) ctx mixed ok_sum_0 (I_s0 ex l) (fun m => m ≤ l.length / 136) (fun m => l.length / 136 - m) 0 (Nat.zero_le _) ?_ fun m hm => ?_
 ·exact ent_of [(2, 2), (3, 3), (4, 4)] rfl (tm_cons rfl (sm_dat' rfl id (fun i _ => by simp [rest])) (tm_cons rfl (sm_ptr rfl) (tm_cons rfl (sm_ptr rfl) (tm_cons rfl (sm_fn (sms_cons (sm_ptr rfl) (sms_cons (sm_ptr rfl) sms_nil))) tm_nil)))) (hp_cons rfl rfl (sm_same rfl) (hp_cons rfl rfl (sm_same rfl) (hp_cons rfl rfl (sm_same rfl) hp_nil)))
 refine of_eq (sum_L0 ex l m 0 _) ⟨fun h => ?_, fun h => ?_⟩
 ·simp only [ge_iff_le, decide_eq_true_eq] at h
  have hr : ∀ i, rest l m i < 256 := fun i => getD_lt hl (by decide) _
  refine ⟨(by first | omega | decide | (unfold I64; omega)), mix_fun false (stN l m) (fun i => rest l m (0 + i)) 136 (by decide) (stN_lt m) (fun i _ => hr _), (by first | omega | decide | (unfold I64; omega)), round_end (m + 1) (by omega) (ent_of [(2, 2), (3, 3), (4, 4)] rfl
   (tm_cons rfl (sm_dat' (by omega) id (fun i _ => by simp only [rest]; rw [show 136 * m + (136 + i) = 136 * (m + 1) + i by omega])) (tm_cons rfl (sm_ptr rfl) (tm_cons rfl (sm_ptr rfl) (tm_cons rfl (sm_fn (sms_cons (sm_ptr rfl) (sms_cons (sm_ptr rfl) sms_nil))) tm_nil)))) (hp_cons rfl rfl (sm_same rfl) (hp_cons rfl rfl (sm_same rfl) (hp_cons rfl rfl (sm_arr fun i hi => ?_) hp_nil)))) (by dsimp only; omega)⟩
  show u64 _ = u64 (mixN (stN l m) (fun i => l.getD (136 * m + i) 0) 136 i)
  have e : (dN fun i1 => u8 (rest l m (0 + i1))) = fun i => l.getD (136 * m + i) 0 := by
   funext j
   show rest l m (0 + j) = _
   rw [Nat.zero_add]; rfl
  rw [e]; rfl
 simp only [ge_iff_le, decide_eq_false_iff_not] at h
 obtain rfl : m = l.length / 136 := by omega
 have hmod : l.length - 136 * (l.length / 136) = l.length % 136 := by omega
 have hml : l.length % 136 < 136 := Nat.mod_lt _ (by decide)
 rw [hmod]
 refine ⟨(by first | omega | decide | (unfold I64; omega)), (by first | omega | decide | (unfold I64; omega)), fun _ _ => ⟨rfl, rfl⟩, cut_ok (S2 := S_9 ex l) (ent_of [(2, 2), (3, 3), (4, 4), (20, 20)] rfl
  (tm_cons rfl (sm_same rfl) (tm_cons rfl (sm_ptr rfl) (tm_cons rfl (sm_ptr rfl) (tm_cons rfl (sm_fn (sms_cons (sm_ptr rfl) (sms_cons (sm_ptr rfl) sms_nil))) (tm_cons rfl (sm_sl rfl rfl (by decide) (by decide) (fun h => ⟨h, rfl⟩)) tm_nil))))) (hp_cons rfl rfl (sm_same rfl) (hp_cons rfl rfl (sm_same rfl) (hp_cons rfl rfl (sm_same rfl) (hp_cons rfl rfl (sm_arr fun i hi => ?_) hp_nil))))) ?_⟩
 ·simp only [lay, blk0, rest]
  rw [if_neg (by omega), Nat.min_eq_left (by omega), Nat.zero_add, Nat.sub_zero]
  by_cases e : i < l.length % 136
  ·rw [if_pos e, if_pos e]
  ·rw [if_neg e, if_neg e]; rfl
 refine of_eq (sum_C9 ex l 0 _) ⟨(by first | omega | decide | (unfold I64; omega)), cut_ok (S2 := S_10 l) (ent_of [(2, 2), (3, 3), (4, 4), (20, 20)] rfl
  (tm_cons rfl (sm_ptr rfl) (tm_cons rfl (sm_ptr rfl) (tm_cons rfl (sm_fn (sms_cons (sm_ptr rfl) (sms_cons (sm_ptr rfl) sms_nil))) (tm_cons rfl (sm_sl rfl rfl (by decide) (by decide) (fun h => ⟨h, rfl⟩)) tm_nil)))) (hp_cons rfl rfl (sm_same rfl) (hp_cons rfl rfl (sm_same rfl) (hp_cons rfl rfl (sm_same rfl) (hp_cons rfl rfl (sm_arr fun i hi => ?_) hp_nil))))) ?_⟩
 ·simp only [blk0, blk6]
  by_cases e : i = l.length % 136
  ·rw [if_pos (by omega), if_neg (by omega), if_pos e]; rfl
  ·rw [if_neg (by omega), if_neg e]
 refine of_eq (sum_C10 l 0 _) ⟨(by first | omega | decide | (unfold I64; omega)), (by first | omega | decide | (unfold I64; omega)), cut_ok (S2 := S_11 l) (ent_of [(2, 2), (3, 3), (4, 4), (20, 20)] rfl
  (tm_cons rfl (sm_ptr rfl) (tm_cons rfl (sm_ptr rfl) (tm_cons rfl (sm_fn (sms_cons (sm_ptr rfl) (sms_cons (sm_ptr rfl) sms_nil))) (tm_cons rfl (sm_sl rfl rfl (by decide) (by decide) (fun h => ⟨h, rfl⟩)) tm_nil)))) (hp_cons rfl rfl (sm_same rfl) (hp_cons rfl rfl (sm_same rfl) (hp_cons rfl rfl (sm_same rfl) (hp_cons rfl rfl (sm_arr fun i hi => ?_) hp_nil))))) ?_⟩
 ·have h1 := last_lt hl 135 (by decide)
  rw [last_eq, if_pos rfl] at h1
  rw [wrap_u8, Nat.mod_eq_of_lt h1, last_eq]
  by_cases e : i = 135
  ·subst e; rw [if_pos rfl, if_pos rfl]
  ·rw [if_neg e, if_neg e]; rfl
 refine of_eq (sum_C11 l 0 _) ⟨mixs_fun (stN l (l.length / 136)) (lastBlk l) 136 (by decide) (stN_lt _) (last_lt hl), ?_⟩
 refine loop_inv (W := w_sum) ctx mixed ok_sum_1 (I_s1 l) (fun i => i ≤ 32) (fun i => 32 - i) 0 (by decide) ?_ fun i hi => ?_
 ·exact ent_of [(2, 2), (4, 4), (7, 7)] rfl (tm_cons rfl (sm_ptr rfl) (tm_cons rfl (sm_ptr rfl) (tm_cons rfl (sm_ptr rfl) (tm_cons rfl (sm_same rfl) tm_nil)))) (hp_cons rfl rfl (sm_same rfl) (hp_cons rfl rfl (sm_same rfl) (hp_cons rfl rfl (sm_arr fun i _ => rfl) hp_nil)))
 refine of_eq (sum_L1 l i 0 _) ⟨fun h => ?_, fun h => ?_⟩
 ·simp only [decide_eq_true_eq] at h
  refine ⟨(by first | omega | decide | (unfold I64; omega)), (by first | omega | decide | (unfold I64; omega)), (by first | omega | decide | (unfold I64; omega)), (by first | omega | decide | (unfold I64; omega)), (by first | omega | decide | (unfold I64; omega)), (by first | omega | decide | (unfold I64; omega)), (by first | omega | decide | (unfold I64; omega)), (by first | omega | decide | (unfold I64; omega)), round_end (i + 1) (by omega) (ent_of [(2, 2), (4, 4), (7, 7)] rfl (tm_cons rfl (sm_ptr rfl) (tm_cons rfl (sm_ptr rfl) (tm_cons rfl (sm_ptr rfl) (tm_cons rfl (sm_same rfl) tm_nil)))) (hp_cons rfl rfl (sm_same rfl) (hp_cons rfl rfl (sm_same rfl) (hp_cons rfl rfl (sm_arr fun j hj => ?_) hp_nil)))) (by dsimp only; omega)⟩
  rw [shr64 (endN l (i / 8)) _ (mixN_lt (stN_lt _) _ (by omega)), wrap_u8]
  dsimp only
  by_cases e : j = i
  ·subst e; rw [if_pos rfl, if_pos (by omega)]; rfl
  ·rw [if_neg e]
   by_cases e2 : j < i
   ·rw [if_pos e2, if_pos (by omega)]
   ·rw [if_neg e2, if_neg (by omega)]
 simp only [decide_eq_false_iff_not] at h
 obtain rfl : i = 32 := by omega
 refine ⟨⟨rfl, rfl, fun _ _ => ⟨rfl, rfl⟩⟩, post_cell rfl rfl (sm_arr fun j hj => ?_) rfl⟩
 rw [if_pos hj]
end Go.Bu.W
namespace Go.Bu.W
open Sp
theorem sum_call {n e : Nat} {ex : Bool} {f : Nat → AV} (hb : B8 n f) (he : n = 0 ∨ e = 1) (hn : n < 2 ^ 62) : Fun C P F_sum [.dat n ex e f] [] (sumAV (bytesL n f)) [] := by
 have h := sum_fun ex (bytesL n f) (small_bytesL hb) (by rw [bytesL_len]; exact hn)
 refine h.sim ⟨.inr ⟨(bytesL_len n f).symm, id, he, fun i hi => .inl (row_bytesL hb i hi)⟩, trivial⟩ trivial
end Go.Bu.W
namespace Go.Bu.W
open Sp
theorem sumL_get (l : List Nat) {k : Nat} (h : k < 32) : (sumL l).getD k 0 = sumN l k := by
 simp [sumL, List.getD_eq_getElem?_getD, h]
end Go.Bu.W
namespace Go.Bu.W
open Sp
def crLaw (g : Nat) (args : List AV) (H : List (Nat × Blk)) : Option (AV × List (Nat × Blk)) := crSp g args H
end Go.Bu.W
namespace Go.Bu.W
def crBase (g : Nat) (args : List AV) (H : List (Nat × Blk)) : Option (AV × List (Nat × Blk)) := crLaw g args H
end Go.Bu.W

