/- The digits of a hash: the reference's walk. -/
import Derived.Test.YtfhdnaonihhjjaaDoorKH1
namespace Go.Bu.W
open Sp
def w_rprint : Way := wayH [0, 1, 2, 3, 4, 7] 25 []
def dgB (l : List Nat) (k : Nat) : Nat := cN' (printL l) k
def I_rpr0 (l : List Nat) (i : Nat) : St := { tm := [(1, .ptr 1 []), (3, .sl 3 [] 0 (2 * i) (2 * i) false 1), (4, i64 i)], hp := [(1, .c (.arr 32 1 (rowL l))), (3, .c (ab (2 * i) (dgB l)))], seen := [1, 3] }

theorem rprint_A (l : List Nat) (K : Nat) (Φ : Ex → St → Prop) :
  (Holds C P 25 [] K Φ (vc C w_rprint b_rprint [] (start [.arr 32 1 (rowL l)] []) lf)) =
  (LoopOK W.C W.P (25 : Nat) [] K (bodyAt b_rprint [1, 1, 0, 1, 0]) (St.mk [((0 : Nat), (AV.arr (32 : Nat) (1 : Nat) (rowL l))), ((1 : Nat), (AV.ptr (1 : Nat) [])), ((2 : Nat), (AV.v (Value.string (ByteArray.mk (List.toArray []))))), ((3 : Nat), (AV.sl (5 : Nat) [] (0 : Nat) (0 : Nat) (0 : Nat) true (1 : Nat))), ((4 : Nat), (AV.v (Value.int IntKind.i64 (0 : Int))))] [((1 : Nat), (Blk.c (AV.arr (32 : Nat) (1 : Nat) (rowL l)))), ((5 : Nat), (Blk.c (AV.st [])))] [(5 : Nat), (1 : Nat)]) (fun (e : Ex) (S' : St) => Holds W.C W.P (25 : Nat) [] K Φ (after W.C w_rprint b_rprint [1, 1, 0, 1, 0] [] lf e S'))) := by kernel_rfl
noncomputable abbrev bd_rprint_0 : Code := bodyAt (b_rprint) [1, 1, 0, 1, 0]
theorem ok_rprint_0 : codeOK bd_rprint_0 = true := by kernel_rfl
noncomputable abbrev rest_rprint_0 (K : Nat) (Φ : Ex → St → Prop) : Ex → St → Prop := fun e S' => Holds C P 25 [] K Φ (after C w_rprint (b_rprint) [1, 1, 0, 1, 0] [] lf e S')
theorem rprint_L0 (l : List Nat) (i : Nat) (K : Nat) (Φ : Ex → St → Prop) :
  (Holds C P 25 [] K (RoundQ C 25 [] K (I_rpr0 l) (fun i => i ≤ 32) (fun i => 32 - i) ((fun i => 32 - i) (i)) (rest_rprint_0 K Φ)) (vc C w_rprint bd_rprint_0 [] ((I_rpr0 l) (i)) lf)) =
  (((decide (((i : Nat) : Int) < (32 : Int))) = true → 
 ((((0 : Int) ≤ ((i : Nat) : Int)) ∧ (((i : Nat) : Int) < (32 : Int))) ∧
  (((16 : Int) ≠ (0 : Int)) ∧
  ((((0 : Int) ≤ (IntKind.wrap IntKind.u8 ((((List.getD l i (0 : Nat)) / 16) : Nat) : Int))) ∧ ((IntKind.wrap IntKind.u8 ((((List.getD l i (0 : Nat)) / 16) : Nat) : Int)) < (16 : Int))) ∧
  ((((0 : Int) ≤ ((i : Nat) : Int)) ∧ (((i : Nat) : Int) < (32 : Int))) ∧
  (((16 : Int) ≠ (0 : Int)) ∧
  ((((0 : Int) ≤ ((((List.getD l i (0 : Nat)) % 16) : Nat) : Int)) ∧ (((((List.getD l i (0 : Nat)) % 16) : Nat) : Int) < (16 : Int))) ∧
  ((((((2 : Nat) * i) + (2 : Nat)) * (1 : Nat)) ≤ (140737488355328 : Nat)) ∧
  ((I64 (((i + 1) : Nat) : Int)) ∧
  ((RoundQ C 25 [] K (I_rpr0 l) (fun i => i ≤ 32) (fun i => 32 - i) ((fun i => 32 - i) (i)) (rest_rprint_0 K Φ)) Ex.normal (St.mk [((1 : Nat), (AV.ptr (1 : Nat) [])), ((3 : Nat), (AV.sl (22 : Nat) [] (0 : Nat) (((2 : Nat) * i) + (2 : Nat)) (((2 : Nat) * i) + (2 : Nat)) false (1 : Nat))), ((4 : Nat), (AV.v (Value.int IntKind.i64 (((i + 1) : Nat) : Int)))), ((7 : Nat), (AV.v (Value.bool true)))] [((1 : Nat), (Blk.c (AV.arr (32 : Nat) (1 : Nat) (rowL l)))), ((21 : Nat), (Blk.c (AV.st [(AV.v (Value.int IntKind.u8 (((UInt8.toNat (List.getD [(48 : UInt8), (49 : UInt8), (50 : UInt8), (51 : UInt8), (52 : UInt8), (53 : UInt8), (54 : UInt8), (55 : UInt8), (56 : UInt8), (57 : UInt8), (97 : UInt8), (98 : UInt8), (99 : UInt8), (100 : UInt8), (101 : UInt8), (102 : UInt8)] (Int.toNat (IntKind.wrap IntKind.u8 ((((List.getD l i (0 : Nat)) / 16) : Nat) : Int))) (0 : UInt8))) : Nat) : Int))), (AV.v (Value.int IntKind.u8 (((UInt8.toNat (List.getD [(48 : UInt8), (49 : UInt8), (50 : UInt8), (51 : UInt8), (52 : UInt8), (53 : UInt8), (54 : UInt8), (55 : UInt8), (56 : UInt8), (57 : UInt8), (97 : UInt8), (98 : UInt8), (99 : UInt8), (100 : UInt8), (101 : UInt8), (102 : UInt8)] ((List.getD l i (0 : Nat)) % 16) (0 : UInt8))) : Nat) : Int)))]))), ((22 : Nat), (Blk.c (AV.arr (((2 : Nat) * i) + (2 : Nat)) (1 : Nat) (cat ((2 : Nat) * i) (fun (i1 : Nat) => (AV.v (Value.int IntKind.u8 (((W.dgB l ((0 : Nat) + i1)) : Nat) : Int)))) (fun (i1 : Nat) => (nthD [(AV.v (Value.int IntKind.u8 (((UInt8.toNat (List.getD [(48 : UInt8), (49 : UInt8), (50 : UInt8), (51 : UInt8), (52 : UInt8), (53 : UInt8), (54 : UInt8), (55 : UInt8), (56 : UInt8), (57 : UInt8), (97 : UInt8), (98 : UInt8), (99 : UInt8), (100 : UInt8), (101 : UInt8), (102 : UInt8)] (Int.toNat (IntKind.wrap IntKind.u8 ((((List.getD l i (0 : Nat)) / 16) : Nat) : Int))) (0 : UInt8))) : Nat) : Int))), (AV.v (Value.int IntKind.u8 (((UInt8.toNat (List.getD [(48 : UInt8), (49 : UInt8), (50 : UInt8), (51 : UInt8), (52 : UInt8), (53 : UInt8), (54 : UInt8), (55 : UInt8), (56 : UInt8), (57 : UInt8), (97 : UInt8), (98 : UInt8), (99 : UInt8), (100 : UInt8), (101 : UInt8), (102 : UInt8)] ((List.getD l i (0 : Nat)) % 16) (0 : UInt8))) : Nat) : Int)))] ((0 : Nat) + i1) (AV.v (Value.tuple (List.toArray [])))))))))] [(22 : Nat), (21 : Nat), (1 : Nat), (3 : Nat)]))))))))))) ∧
 ((decide (((i : Nat) : Int) < (32 : Int))) = false → 
 ((∀ (i1 : Nat), ((i1 < ((2 : Nat) * i)) → (((0 : Int) ≤ (((W.dgB l ((0 : Nat) + i1)) : Nat) : Int)) ∧ ((((W.dgB l ((0 : Nat) + i1)) : Nat) : Int) < (256 : Int))))) ∧
  (Φ Ex.ret (St.mk [((1 : Nat), (AV.ptr (1 : Nat) [])), ((2 : Nat), (AV.v (Value.string (bytesOf ((2 : Nat) * i) (fun (i1 : Nat) => (AV.v (Value.int IntKind.u8 (((W.dgB l ((0 : Nat) + i1)) : Nat) : Int)))))))), ((3 : Nat), (AV.sl (3 : Nat) [] (0 : Nat) ((2 : Nat) * i) ((2 : Nat) * i) false (1 : Nat))), ((4 : Nat), (AV.v (Value.int IntKind.i64 ((i : Nat) : Int)))), ((7 : Nat), (AV.v (Value.bool false)))] [((1 : Nat), (Blk.c (AV.arr (32 : Nat) (1 : Nat) (rowL l)))), ((3 : Nat), (Blk.c (AV.arr ((2 : Nat) * i) (1 : Nat) (fun (i1 : Nat) => (AV.v (Value.int IntKind.u8 (((W.dgB l i1) : Nat) : Int)))))))] [(1 : Nat), (3 : Nat)]))))) := by kernel_rfl

theorem dgB_lt (l : List Nat) (k : Nat) : dgB l k < 256 := UInt8.toNat_lt _
theorem dgB_get {l : List Nat} (hs : Small l) {k : Nat} (hk : k < l.length) : dgB l (2 * k) = digN (l.getD k 0 / 16) ∧ dgB l (2 * k + 1) = digN (l.getD k 0 % 16) := by
  obtain ⟨h1, h2⟩ := printL_get l k hk
  have := getD_small hs k
  unfold dgB cN'
  rw [h1, h2, toU8 (digN_lt (by omega)), toU8 (digN_lt (by omega))]
  exact ⟨rfl, rfl⟩
theorem hexL_printL (l : List Nat) : Proofs.hexL l = printL l := rfl
theorem toArray_getD (s : List UInt8) : (List.range s.length).map (fun k => UInt8.ofNat (s.getD k 0).toNat) = s := by
  apply List.ext_getElem
  · simp
  · intro i h1 h2
    simp [List.getD_eq_getElem?_getD, h2]
theorem bytes_dg {l : List Nat} (hl : l.length = 32) : bytesOf 64 (fun i1 => u8 (dgB l (0 + i1))) = hexB l := by
  unfold bytesOf hexB
  rw [hexL_printL]
  congr 1
  have h64 : (printL l).length = 64 := by rw [printL_len, hl]
  have := toArray_getD (printL l)
  rw [h64] at this
  rw [← this]
  congr 1

theorem rprint_fun (l : List Nat) (hl : l.length = 32) (hs : Small l) : Fun C P F_rprint [.arr 32 1 (rowL l)] [] (.v (.string (hexB l))) [] := by
  refine in_rprint (W := w_rprint) rfl 0 (by simp) rfl (fun id h => absurd rfl h) ?_
  refine of_eq (rprint_A l 0 _) ?_
  refine loop_inv (W := w_rprint) ctx mixed ok_rprint_0 (I_rpr0 l) (fun i => i ≤ 32) (fun i => 32 - i) 0 (by decide) ?_ fun i hi => ?_
  · refine ent_of [(1, 1), (5, 3)] rfl (tm_cons rfl (sm_ptr rfl) (tm_cons rfl (sm_sl rfl rfl (Nat.le_refl _) (Nat.le_refl _) (by simp)) (tm_cons rfl (sm_same rfl) tm_nil))) (hp_cons rfl rfl (sm_same rfl) (hp_cons rfl rfl (sm_row rfl rfl rfl fun i x hx => ?_) hp_nil))
    cases i with
    | zero => cases hx
    | succ i => cases hx
  refine of_eq (rprint_L0 l i 0 _) ⟨fun h => ?_, fun h => ?_⟩
  · simp only [decide_eq_true_eq] at h
    have hx := getD_small hs i
    have hw : IntKind.wrap IntKind.u8 ((l.getD i 0 / 16 : Nat) : Int) = ((l.getD i 0 / 16 : Nat) : Int) := by
      rw [wrap_u8, Nat.mod_eq_of_lt (by omega)]
    rw [hw, Int.toNat_natCast, dig8 (by omega), dig8 (by omega)]
    obtain ⟨d1, d2⟩ := dgB_get hs (k := i) (by omega)
    refine ⟨(by first | omega | decide | (unfold I64; omega)), (by first | omega | decide | (unfold I64; omega)), (by first | omega | decide | (unfold I64; omega)), (by first | omega | decide | (unfold I64; omega)), (by first | omega | decide | (unfold I64; omega)), (by first | omega | decide | (unfold I64; omega)), (by first | omega | decide | (unfold I64; omega)), (by first | omega | decide | (unfold I64; omega)), round_end (i + 1) (by omega) (ent_of [(1, 1), (22, 3)] rfl (tm_cons rfl (sm_ptr rfl) (tm_cons rfl (sm_sl rfl ?_ ?_ ?_ (by simp)) (tm_cons rfl (sm_same rfl) tm_nil))) (hp_cons rfl rfl (sm_same rfl) (hp_cons rfl rfl (sm_arr' ?_ fun k hk => ?_) hp_nil))) (by dsimp only; omega)⟩
    · omega
    · omega
    · omega
    · omega
    · unfold cat
      by_cases e : k < 2 * i
      · rw [if_pos e]
        dsimp only
        rw [Nat.zero_add]
      · rw [if_neg e]
        by_cases e2 : k = 2 * i
        · subst e2
          rw [Nat.sub_self, d1]
          rfl
        · have e3 : k = 2 * i + 1 := by omega
          subst e3
          rw [show 2 * i + 1 - 2 * i = 1 by omega, d2]
          rfl
  simp only [decide_eq_false_iff_not] at h
  obtain rfl : i = 32 := by omega
  refine ⟨fun i1 _ => u8_in (dgB_lt _ _), post_tmp rfl (sm_v ?_)⟩
  exact congrArg Value.string (bytes_dg hl)

theorem rprint_call {f : Nat → AV} (hb : B8 32 f) : Fun C P F_rprint [.arr 32 1 f] [] (.v (.string (hexB (bytesL 32 f)))) [] :=
  (rprint_fun (bytesL 32 f) (bytesL_len _ _) (small_bytesL hb)).sim ⟨sm_arr fun i hi => row_bytesL hb i hi, trivial⟩ trivial
end Go.Bu.W

