/- What is known of sums and streams, whoever calls. -/
import Derived.Test.YtfioagkihgaimaaDoorK12
import Derived.Test.YtfioagkihgaimaaDoorK7
import Derived.Test.YtfioagkihgaimaaDoorK11
import Derived.Test.YtfioagkihgaimaaDoorK9
namespace Go.Bu.W
open Sp

theorem b8_sum (l : List Nat) : B8 32 (fun i => u8 (sumN l i)) := fun i _ => ⟨rfl, sumN_lt l i⟩
theorem stream_call {f : Nat → AV} {id n : Int} (hb : B8 32 f) (hid : I64 id) (hn : n.toNat < 2 ^ 40) : Fun C P F_stream [.arr 32 1 f, .i id, .i n] [] (.sl 0 [] 0 n.toNat n.toNat false 1) [(0, .c (ab n.toNat (streamN (bytesL 32 f) id n.toNat)))] :=
  (stream_fun (bytesL 32 f) id n (bytesL_len _ _) (small_bytesL hb) hid hn).sim ⟨sm_arr fun i hi => row_bytesL hb i hi, sm_same rfl, sm_same rfl, trivial⟩ trivial

theorem small_sumL (l : List Nat) : Small (sumL l) := fun x hx => by
  obtain ⟨i, _, rfl⟩ := List.mem_map.1 hx
  exact sumN_lt l i
theorem small_streamL (key : List Nat) (id : Int) (n : Nat) : Small (streamL key id n) := fun x hx => by
  obtain ⟨i, _, rfl⟩ := List.mem_map.1 hx
  exact getD_small (small_sumL _) _
theorem streamN_lt (key : List Nat) (id : Int) (n i : Nat) : streamN key id n i < 256 := getD_small (small_streamL key id n) i

end Go.Bu.W

namespace Go.Bu.W
open Sp
def crLaw (g : Nat) (args : List AV) (H : List (Nat × Blk)) : Option (AV × List (Nat × Blk)) := crSp g args H

end Go.Bu.W

namespace Go.Bu.W
open Sp
def crBytes : List AV → Option (AV × List (Nat × Blk))
  | [x, .dat n _ _ f] => some (ownB (ofBytes (asN x) (partsL n f)))
  | _ => none
def crRef (g : Nat) (args : List AV) (H : List (Nat × Blk)) : Option (AV × List (Nat × Blk)) :=
  sel (Nat.beq g F_reight) (crEight args) <| sel (Nat.beq g F_bytes) (crBytes args) <| crLaw g args H
def wayR (keep : List Nat) (nt : Nat) (cuts : List Nat) : Way := ⟨crRef, fun _ => false, keep, [], nt, cuts⟩
def w_reight : Way := wayR [0, 2, 3, 4, 7] 20 []
def w_bytes : Way := wayR [0, 1, 4, 5, 6, 12] 30 []
def I_re0 (n : Int) (j : Nat) : St := { tm := [(0, .i n), (3, .sl 0 [] 0 j j false 1), (4, .i (7 - (j : Int)))], hp := [(0, .c (ab j (eightN n)))], seen := [0] }
def I_by0 (tag : Nat) (ex : Bool) (exs : Nat → Bool) (ps : List (List Nat)) (i : Nat) : St := { tm := [(1, dp ex exs ps), (5, .sl 5 [] 0 (allN tag ps i).length (allN tag ps i).length false 1), (6, i64 i)], hp := [(5, .c (.arr (allN tag ps i).length 1 (rowL (allN tag ps i))))], seen := [5] }

theorem reight_A (n : Int) (K : Nat) (Φ : Ex → St → Prop) :
  (Holds C P 20 [] K Φ (vc C w_reight b_reight [] (start [.i n] []) lf)) =
  (LoopOK W.C W.P (20 : Nat) [] K (bodyAt b_reight [1, 1, 0, 1, 0]) (St.mk [((0 : Nat), (AV.v (Value.int IntKind.i64 n))), ((2 : Nat), (AV.dat (0 : Nat) true (0 : Nat) (fun (x : Nat) => (AV.v (Value.tuple (List.toArray [])))))), ((3 : Nat), (AV.sl (5 : Nat) [] (0 : Nat) (0 : Nat) (0 : Nat) true (1 : Nat))), ((4 : Nat), (AV.v (Value.int IntKind.i64 (7 : Int))))] [((5 : Nat), (Blk.c (AV.st [])))] [(5 : Nat)]) (fun (e : Ex) (S' : St) => Holds W.C W.P (20 : Nat) [] K Φ (after W.C w_reight b_reight [1, 1, 0, 1, 0] [] lf e S'))) := by kernel_rfl
noncomputable abbrev bd_reight_0 : Code := bodyAt (b_reight) [1, 1, 0, 1, 0]
theorem ok_reight_0 : codeOK bd_reight_0 = true := by kernel_rfl
noncomputable abbrev rest_reight_0 (K : Nat) (Φ : Ex → St → Prop) : Ex → St → Prop := fun e S' => Holds C P 20 [] K Φ (after C w_reight (b_reight) [1, 1, 0, 1, 0] [] lf e S')
theorem reight_L0 (n : Int) (j : Nat) (K : Nat) (Φ : Ex → St → Prop) :
  (Holds C P 20 [] K (RoundQ C 20 [] K (I_re0 n) (fun j => j ≤ 8) (fun j => 8 - j) ((fun j => 8 - j) (j)) (rest_reight_0 K Φ)) (vc C w_reight bd_reight_0 [] ((I_re0 n) (j)) lf)) =
  (((decide (((7 : Int) - ((j : Nat) : Int)) ≥ (0 : Int))) = true → 
 ((I64 ((8 : Int) * ((7 : Int) - ((j : Nat) : Int)))) ∧
  (((0 : Int) ≤ ((8 : Int) * ((7 : Int) - ((j : Nat) : Int)))) ∧
  ((((j + (1 : Nat)) * (1 : Nat)) ≤ (140737488355328 : Nat)) ∧
  ((I64 (((7 : Int) - ((j : Nat) : Int)) - (1 : Int))) ∧
  ((RoundQ C 20 [] K (I_re0 n) (fun j => j ≤ 8) (fun j => 8 - j) ((fun j => 8 - j) (j)) (rest_reight_0 K Φ)) Ex.normal (St.mk [((0 : Nat), (AV.v (Value.int IntKind.i64 n))), ((3 : Nat), (AV.sl (18 : Nat) [] (0 : Nat) (j + (1 : Nat)) (j + (1 : Nat)) false (1 : Nat))), ((4 : Nat), (AV.v (Value.int IntKind.i64 (((7 : Int) - ((j : Nat) : Int)) - (1 : Int))))), ((7 : Nat), (AV.v (Value.bool true)))] [((17 : Nat), (Blk.c (AV.st [(AV.v (Value.int IntKind.u8 (IntKind.wrap IntKind.u8 (bShr IntKind.u64 (IntKind.wrap IntKind.u64 n) ((8 : Int) * ((7 : Int) - ((j : Nat) : Int)))))))]))), ((18 : Nat), (Blk.c (AV.arr (j + (1 : Nat)) (1 : Nat) (cat j (fun (i : Nat) => (AV.v (Value.int IntKind.u8 (((Sp.eightN n ((0 : Nat) + i)) : Nat) : Int)))) (fun (i : Nat) => (nthD [(AV.v (Value.int IntKind.u8 (IntKind.wrap IntKind.u8 (bShr IntKind.u64 (IntKind.wrap IntKind.u64 n) ((8 : Int) * ((7 : Int) - ((j : Nat) : Int)))))))] ((0 : Nat) + i) (AV.v (Value.tuple (List.toArray [])))))))))] [(18 : Nat), (17 : Nat), (0 : Nat)]))))))) ∧
 ((decide (((7 : Int) - ((j : Nat) : Int)) ≥ (0 : Int))) = false → 
 (Φ Ex.ret (St.mk [((0 : Nat), (AV.v (Value.int IntKind.i64 n))), ((2 : Nat), (AV.sl (0 : Nat) [] (0 : Nat) j j false (1 : Nat))), ((3 : Nat), (AV.sl (0 : Nat) [] (0 : Nat) j j false (1 : Nat))), ((4 : Nat), (AV.v (Value.int IntKind.i64 ((7 : Int) - ((j : Nat) : Int))))), ((7 : Nat), (AV.v (Value.bool false)))] [((0 : Nat), (Blk.c (AV.arr j (1 : Nat) (fun (i : Nat) => (AV.v (Value.int IntKind.u8 (((Sp.eightN n i) : Nat) : Int)))))))] [(0 : Nat)])))) := by kernel_rfl
theorem bytes_A (tag : Nat) (ex : Bool) (exs : Nat → Bool) (ps : List (List Nat)) (K : Nat) (Φ : Ex → St → Prop) :
  (Holds C P 30 [] K Φ (vc C w_bytes b_bytes [] (start [u8 tag, dp ex exs ps] []) lf)) =
  (LoopOK W.C W.P (30 : Nat) [] K (bodyAt b_bytes [1, 1, 0, 1, 0]) (St.mk [((0 : Nat), (AV.v (Value.int IntKind.u8 ((tag : Nat) : Int)))), ((1 : Nat), (AV.dat (List.length ps) ex (1 : Nat) (fun (i : Nat) => (AV.dat (List.length (List.getD ps i [])) (exs i) (1 : Nat) (rowL (List.getD ps i [])))))), ((4 : Nat), (AV.dat (0 : Nat) true (0 : Nat) (fun (x : Nat) => (AV.v (Value.tuple (List.toArray [])))))), ((5 : Nat), (AV.sl (8 : Nat) [] (0 : Nat) (1 : Nat) (1 : Nat) true (1 : Nat))), ((6 : Nat), (AV.v (Value.int IntKind.i64 (0 : Int))))] [((8 : Nat), (Blk.c (AV.st [(AV.v (Value.int IntKind.u8 ((tag : Nat) : Int)))])))] [(8 : Nat)]) (fun (e : Ex) (S' : St) => Holds W.C W.P (30 : Nat) [] K Φ (after W.C w_bytes b_bytes [1, 1, 0, 1, 0] [] lf e S'))) := by kernel_rfl
noncomputable abbrev bd_bytes_0 : Code := bodyAt (b_bytes) [1, 1, 0, 1, 0]
theorem ok_bytes_0 : codeOK bd_bytes_0 = true := by kernel_rfl
noncomputable abbrev rest_bytes_0 (K : Nat) (Φ : Ex → St → Prop) : Ex → St → Prop := fun e S' => Holds C P 30 [] K Φ (after C w_bytes (b_bytes) [1, 1, 0, 1, 0] [] lf e S')
theorem bytes_L0 (tag : Nat) (ex : Bool) (exs : Nat → Bool) (ps : List (List Nat)) (i : Nat) (K : Nat) (Φ : Ex → St → Prop) :
  (Holds C P 30 [] K (RoundQ C 30 [] K (I_by0 tag ex exs ps) (fun i => i ≤ ps.length) (fun i => ps.length - i) ((fun i => ps.length - i) (i)) (rest_bytes_0 K Φ)) (vc C w_bytes bd_bytes_0 [] ((I_by0 tag ex exs ps) (i)) lf)) =
  (((decide (((i : Nat) : Int) < (((List.length ps) : Nat) : Int))) = true → 
 ((((0 : Int) ≤ ((i : Nat) : Int)) ∧ (((i : Nat) : Int) < (((List.length ps) : Nat) : Int))) ∧
  (Fun W.C W.P (42 : Nat) [(AV.v (Value.int IntKind.i64 (((List.length (List.getD ps i [])) : Nat) : Int)))] [] (AV.sl (0 : Nat) [] (0 : Nat) (8 : Nat) (8 : Nat) false (1 : Nat)) [((0 : Nat), (Blk.c (AV.arr (8 : Nat) (1 : Nat) (fun (i1 : Nat) => (AV.v (Value.int IntKind.u8 (((Sp.eightN (((List.length (List.getD ps i [])) : Nat) : Int) i1) : Nat) : Int)))))))] ∧
  (((((List.length (W.allN tag ps i)) + (8 : Nat)) * (1 : Nat)) ≤ (140737488355328 : Nat)) ∧
  ((((0 : Int) ≤ ((i : Nat) : Int)) ∧ (((i : Nat) : Int) < (((List.length ps) : Nat) : Int))) ∧
  ((((((List.length (W.allN tag ps i)) + (8 : Nat)) + (List.length (List.getD ps i []))) * (1 : Nat)) ≤ (140737488355328 : Nat)) ∧
  ((I64 (((i + 1) : Nat) : Int)) ∧
  ((RoundQ C 30 [] K (I_by0 tag ex exs ps) (fun i => i ≤ ps.length) (fun i => ps.length - i) ((fun i => ps.length - i) (i)) (rest_bytes_0 K Φ)) Ex.normal (St.mk [((1 : Nat), (AV.dat (List.length ps) ex (1 : Nat) (fun (i1 : Nat) => (AV.dat (List.length (List.getD ps i1 [])) (exs i1) (1 : Nat) (rowL (List.getD ps i1 [])))))), ((5 : Nat), (AV.sl (28 : Nat) [] (0 : Nat) (((List.length (W.allN tag ps i)) + (8 : Nat)) + (List.length (List.getD ps i []))) (((List.length (W.allN tag ps i)) + (8 : Nat)) + (List.length (List.getD ps i []))) false (1 : Nat))), ((6 : Nat), (AV.v (Value.int IntKind.i64 (((i + 1) : Nat) : Int)))), ((12 : Nat), (AV.v (Value.bool true)))] [((21 : Nat), (Blk.c (AV.arr (8 : Nat) (1 : Nat) (fun (i1 : Nat) => (AV.v (Value.int IntKind.u8 (((Sp.eightN (((List.length (List.getD ps i [])) : Nat) : Int) i1) : Nat) : Int))))))), ((28 : Nat), (Blk.c (AV.arr (((List.length (W.allN tag ps i)) + (8 : Nat)) + (List.length (List.getD ps i []))) (1 : Nat) (cat ((List.length (W.allN tag ps i)) + (8 : Nat)) (fun (i1 : Nat) => (cat (List.length (W.allN tag ps i)) (fun (i2 : Nat) => (AV.v (Value.int IntKind.u8 (((List.getD (W.allN tag ps i) ((0 : Nat) + i2) (0 : Nat)) : Nat) : Int)))) (fun (i2 : Nat) => (AV.v (Value.int IntKind.u8 (((Sp.eightN (((List.length (List.getD ps i [])) : Nat) : Int) ((0 : Nat) + i2)) : Nat) : Int)))) ((0 : Nat) + i1))) (rowL (List.getD ps i []))))))] [(28 : Nat), (22 : Nat), (21 : Nat), (5 : Nat)]))))))))) ∧
 ((decide (((i : Nat) : Int) < (((List.length ps) : Nat) : Int))) = false → 
 (Φ Ex.ret (St.mk [((1 : Nat), (AV.dat (List.length ps) ex (1 : Nat) (fun (i1 : Nat) => (AV.dat (List.length (List.getD ps i1 [])) (exs i1) (1 : Nat) (rowL (List.getD ps i1 [])))))), ((4 : Nat), (AV.sl (5 : Nat) [] (0 : Nat) (List.length (W.allN tag ps i)) (List.length (W.allN tag ps i)) false (1 : Nat))), ((5 : Nat), (AV.sl (5 : Nat) [] (0 : Nat) (List.length (W.allN tag ps i)) (List.length (W.allN tag ps i)) false (1 : Nat))), ((6 : Nat), (AV.v (Value.int IntKind.i64 ((i : Nat) : Int)))), ((12 : Nat), (AV.v (Value.bool false)))] [((5 : Nat), (Blk.c (AV.arr (List.length (W.allN tag ps i)) (1 : Nat) (rowL (W.allN tag ps i)))))] [(5 : Nat)])))) := by kernel_rfl

theorem reight_fun (n : Int) (hn : I64 n) : Fun C P F_reight [.i n] [] (.sl 0 [] 0 8 8 false 1) [(0, .c (ab 8 (eightN n)))] := by
  refine in_reight (W := w_reight) rfl 0 (by simp) rfl (fun id h => absurd rfl h) ?_
  refine of_eq (reight_A n 0 _) ?_
  refine loop_inv (W := w_reight) ctx mixed ok_reight_0 (I_re0 n) (fun j => j ≤ 8) (fun j => 8 - j) 0 (by decide) ?_ fun j hj => ?_
  · refine ent_of [(5, 0)] rfl (tm_cons rfl (sm_same rfl) (tm_cons rfl (sm_sl rfl rfl (Nat.le_refl _) (Nat.le_refl _) (by simp)) (tm_cons rfl (sm_same rfl) tm_nil))) (hp_cons rfl rfl (sm_row rfl rfl rfl fun i x hx => ?_) hp_nil)
    cases i with
    | zero => cases hx
    | succ i => cases hx
  refine of_eq (reight_L0 n j 0 _) ⟨fun h => ?_, fun h => ?_⟩
  · simp only [ge_iff_le, decide_eq_true_eq] at h
    have hj8 : j < 8 := by omega
    rw [show (8 : Int) * ((7 : Int) - ((j : Nat) : Int)) = (56 : Int) - ((8 * j : Nat) : Int) by omega, eight_val n hn j hj8]
    refine ⟨(by first | omega | decide | (unfold I64; omega)), (by first | omega | decide | (unfold I64; omega)), (by first | omega | decide | (unfold I64; omega)), (by first | omega | decide | (unfold I64; omega)), round_end (j + 1) (by omega) (ent_of [(18, 0)] rfl (tm_cons rfl (sm_same rfl) (tm_cons rfl (sm_sl rfl rfl (Nat.le_refl _) (Nat.le_refl _) (by simp)) (tm_cons rfl (sm_int (by omega)) tm_nil))) (hp_cons rfl rfl (sm_arr fun i hi => ?_) hp_nil)) (by dsimp only; omega)⟩
    unfold cat
    by_cases e : i < j
    · rw [if_pos e]; simp only [Nat.zero_add]
    · have e2 : i = j := by omega
      subst e2
      rw [if_neg e]
      simp only [Nat.sub_self]
      rfl
  · simp only [ge_iff_le, decide_eq_false_iff_not] at h
    obtain rfl : j = 8 := by omega
    exact funPost_of (S2 := { tm := [(2, .sl 0 [] 0 8 8 false 1)], hp := [(0, .c (ab 8 (eightN n)))], seen := [0] }) (by simp) (ent_of [(0, 0)] rfl (tm_cons rfl (sm_sl rfl rfl (Nat.le_refl _) (Nat.le_refl _) (by simp)) tm_nil) (hp_cons rfl rfl (sm_same rfl) hp_nil)) rfl
      (.inr ⟨rfl, rfl, rfl, rfl, by decide, by decide, by simp, rfl⟩) fun _ _ h => h

theorem bytes_fun (tag : Nat) (ex : Bool) (exs : Nat → Bool) (ps : List (List Nat)) (hn : (ofBytes tag ps).length < 2 ^ 46) :
    Fun C P F_bytes [u8 tag, dp ex exs ps] [] (ownB (ofBytes tag ps)).1 (ownB (ofBytes tag ps)).2 := by
  have hle := allN_le tag ps
  rw [allN_all] at hle
  have hps : ps.length < 2 ^ 46 := by
    have : ∀ qs : List (List Nat), qs.length ≤ (qs.flatMap fun p => eightL p.length ++ p).length := by
      intro qs
      induction qs with
      | nil => simp
      | cons q r ih => simp [eightL] at ih ⊢; omega
    have h1 := this ps
    simp only [ofBytes, List.length_cons] at hn
    omega
  refine in_bytes (W := w_bytes) rfl 0 (by simp) rfl (fun id h => absurd rfl h) ?_
  refine of_eq (bytes_A tag ex exs ps 0 _) ?_
  refine loop_inv (W := w_bytes) ctx mixed ok_bytes_0 (I_by0 tag ex exs ps) (fun i => i ≤ ps.length) (fun i => ps.length - i) 0 (Nat.zero_le _) ?_ fun i hi => ?_
  · refine ent_of [(8, 5)] rfl (tm_cons rfl (sm_same rfl) (tm_cons rfl (sm_sl rfl rfl (Nat.le_refl _) (Nat.le_refl _) (by simp)) (tm_cons rfl (sm_same rfl) tm_nil))) (hp_cons rfl rfl (sm_row rfl rfl rfl fun i x hx => ?_) hp_nil)
    cases i with
    | zero => cases hx; rfl
    | succ i => cases i <;> cases hx
  refine of_eq (bytes_L0 tag ex exs ps i 0 _) ⟨fun h => ?_, fun h => ?_⟩
  · simp only [decide_eq_true_eq] at h
    have hi' : i < ps.length := by omega
    have h1 := hle (i + 1) (by omega)
    have hs := allN_succ tag ps i hi'
    rw [hs] at h1
    simp only [List.length_append, eightL, List.length_map, List.length_range] at h1
    refine ⟨(by first | omega | decide | (unfold I64; omega)), reight_fun _ (by first | omega | decide | (unfold I64; omega)), (by first | omega | decide | (unfold I64; omega)), (by first | omega | decide | (unfold I64; omega)), (by first | omega | decide | (unfold I64; omega)), (by first | omega | decide | (unfold I64; omega)), round_end (i + 1) (by omega) (ent_of [(28, 5)] rfl (tm_cons rfl (sm_same rfl) (tm_cons rfl (sm_sl rfl ?_ ?_ ?_ (by simp)) (tm_cons rfl (sm_same rfl) tm_nil))) (hp_cons rfl rfl (sm_arr' ?_ fun j hj => ?_) hp_nil)) (by dsimp only; omega)⟩
    · rw [hs]; simp [eightL]; omega
    · rw [hs]; simp [eightL]; omega
    · rw [hs]; simp [eightL]; omega
    · rw [hs]; simp [eightL]; omega
    · show _ = rowL (allN tag ps (i + 1)) j
      rw [hs, ← List.append_assoc]
      refine cat_rows (by simp [eightL]) (fun k hk => ?_) rfl (fun k hk => rfl) j hj
      rw [Nat.zero_add]
      refine cat_rows rfl (fun q _ => by rw [Nat.zero_add]) (by simp [eightL]) (fun q hq => ?_) k hk
      rw [Nat.zero_add]
      simp [eightL, List.getD_eq_getElem?_getD, hq]
  simp only [decide_eq_false_iff_not] at h
  obtain rfl : i = ps.length := by omega
  rw [allN_all]
  exact funPost_of (S2 := { tm := [(4, (ownB (ofBytes tag ps)).1)], hp := (ownB (ofBytes tag ps)).2, seen := [0] }) (by simp) (ent_of [(5, 0)] rfl (tm_cons rfl (sm_sl rfl rfl (Nat.le_refl _) (Nat.le_refl _) (by simp)) tm_nil) (hp_cons rfl rfl (sm_same rfl) hp_nil)) rfl
      (.inr ⟨rfl, rfl, rfl, rfl, Nat.le_refl _, Nat.le_refl _, by simp, rfl⟩) fun _ _ h => h

theorem getD_mem {ps : List (List Nat)} (hp : ∀ p ∈ ps, Small p) (i : Nat) : Small (ps.getD i []) := by
  rw [List.getD_eq_getElem?_getD]
  cases h : ps[i]? with
  | none => exact small_nil
  | some x => exact hp x (List.mem_of_getElem? h)
theorem small_get {l : List Nat} (h : Small l) : ∀ i, i < l.length → (0 : Int) ≤ ((l.getD i 0 : Nat) : Int) ∧ ((l.getD i 0 : Nat) : Int) < 256 := fun i _ => by
  have := getD_small h i
  omega

theorem parts_blk {key : List Nat} {id i : Int} (hs : Small key) : Parts 3 (fun i1 => nthD [AV.dat 32 false 1 (fun i2 => u8 (key.getD (0 + i2) 0)), AV.dat 8 false 1 (fun i2 => u8 (eightN id (0 + i2))), AV.dat 8 false 1 (fun i2 => u8 (eightN i (0 + i2)))] (0 + i1) (.v (.tuple (List.toArray [])))) := by
  intro j hj
  match j, hj with
  | 0, _ => exact ⟨_, _, _, _, rfl, .inr rfl, fun j _ => ⟨rfl, getD_small hs _⟩⟩
  | 1, _ => exact ⟨_, _, _, _, rfl, .inr rfl, fun j _ => ⟨rfl, eightN_lt _ _⟩⟩
  | 2, _ => exact ⟨_, _, _, _, rfl, .inr rfl, fun j _ => ⟨rfl, eightN_lt _ _⟩⟩
theorem partsL_blk {key : List Nat} {id i : Int} (hk : key.length = 32) : partsL 3 (fun i1 => nthD [AV.dat 32 false 1 (fun i2 => u8 (key.getD (0 + i2) 0)), AV.dat 8 false 1 (fun i2 => u8 (eightN id (0 + i2))), AV.dat 8 false 1 (fun i2 => u8 (eightN i (0 + i2)))] (0 + i1) (.v (.tuple (List.toArray [])))) = [key, eightL id, eightL i] := by
  refine parts3 (fun j hj => nthD3 _ _ _ _ j hj) ?_ ?_ ?_
  · exact bytesL_of hk.symm fun j _ => by rw [Nat.zero_add]
  · exact eightL_of fun j _ => by rw [Nat.zero_add]
  · exact eightL_of fun j _ => by rw [Nat.zero_add]
theorem b8_stream (key : List Nat) (id : Int) (n k o : Nat) : B8 k (fun i => u8 (streamN key id n (o + i))) := fun i _ => ⟨rfl, streamN_lt _ _ _ _⟩

end Go.Bu.W

namespace Go.Bu.W
def crBase (g : Nat) (args : List AV) (H : List (Nat × Blk)) : Option (AV × List (Nat × Blk)) := crRef g args H
end Go.Bu.W

namespace Go.Bu.W
open Sp
abbrev refArr (f : Nat → Nat) : AV := .arr 5 5 (fun x => .arr 5 1 (fun y => u64 (f (x + 5 * y))))
def crLeft : List AV → Option (AV × List (Nat × Blk))
  | [n, w] => some (u64 (rotl (asN w) (asN n)), [])
  | _ => none
def flatN (F : Nat → AV) (p : Nat) : Nat := match F (p % 5) with | .arr _ _ g => asN (g (p / 5)) | _ => 0
def crRRound : List AV → Option (AV × List (Nat × Blk))
  | [.arr _ _ F, k] => some (refArr (roundN (flatN F) (asN k)), [])
  | _ => none
def wordsR : AV := .arr 24 1 (fun i => u64 (wordsN i))
def crRS (g : Nat) (args : List AV) (H : List (Nat × Blk)) : Option (AV × List (Nat × Blk)) :=
  sel (Nat.beq g F_left) (crLeft args) <| sel (Nat.beq g F_rround) (crRRound args) <| sel (Nat.beq g F_rwords) (some (wordsR, [])) <| sel (Nat.beq g F_rsum) (crSum args) <| sel (Nat.beq g F_rof) (crOf args) <|
  sel (Nat.beq g F_rstream) (crStream args) <| crBase g args H
def wayS (keep : List Nat) (nt : Nat) (cuts : List Nat) : Way := ⟨crRS, fun _ => false, keep, [], nt, cuts⟩
def w_left : Way := wayS [0, 1, 4] 13 []
def w_rwords : Way := wayS [0] 2 []
def w_rround : Way := wayS [0, 1, 2, 4, 5, 6, 7, 8, 9, 10, 11, 12, 13, 14, 15, 16, 17, 20, 50, 66, 81, 110, 114, 132, 136] 173 []
def colN (f : Nat → Nat) (x : Nat) : Nat := f x ^^^ f (x + 5) ^^^ f (x + 10) ^^^ f (x + 15) ^^^ f (x + 20)
def part (u v : Nat → Nat) (x y p : Nat) : Nat := if p % 5 < x ∨ (p % 5 = x ∧ p / 5 < y) then u p else v p
def dlN (f : Nat → Nat) (x : Nat) : Nat := cN f 25 ((x + 4) % 5) ^^^ rotl (cN f 25 ((x + 1) % 5)) 1
def rhoN (th : Nat → Nat) : Nat → Nat → Nat
  | 0 => th
  | t + 1 => fun j => if j = (pos t).1 + 5 * (pos t).2 then rotl (rhoN th t j) ((t + 1) * (t + 2) / 2 % 64) else rhoN th t j
def bR (g : Nat → Nat) : Nat → Nat → Nat
  | 0 => fun _ => 0
  | n + 1 => fun p => if p = n % 5 + 5 * ((2 * (n / 5) + 3 * (n % 5)) % 5) then g (n / 5 + 5 * (n % 5)) else bR g n p
def I_q0 (f : Nat → Nat) (k i : Nat) : St := { tm := [(1, u64 k), (2, .ptr 2 []), (4, .ptr 4 []), (5, .ptr 5 []), (6, i64 i)], hp := [(2, .c (refArr f)), (4, .c (refArr fun _ => 0)), (5, .c (aw 5 (fun x => if x < i then colN f x else 0)))], seen := [2, 4, 5] }
def I_q1 (f : Nat → Nat) (k i : Nat) : St := { tm := [(1, u64 k), (2, .ptr 2 []), (4, .ptr 4 []), (5, .ptr 5 []), (7, i64 i)], hp := [(2, .c (refArr (part (theta f) f i 0))), (4, .c (refArr fun _ => 0)), (5, .c (aw 5 (cN f 25)))], seen := [2, 4, 5] }
def I_q2 (f : Nat → Nat) (k i y : Nat) : St := { tm := [(1, u64 k), (2, .ptr 2 []), (4, .ptr 4 []), (5, .ptr 5 []), (7, i64 i), (8, u64 (dlN f i)), (9, i64 y)], hp := [(2, .c (refArr (part (theta f) f i y))), (4, .c (refArr fun _ => 0)), (5, .c (aw 5 (cN f 25)))], seen := [2, 4, 5] }
def I_q3 (f : Nat → Nat) (k t : Nat) : St := { tm := [(1, u64 k), (2, .ptr 2 []), (4, .ptr 4 []), (10, i64 (pos t).1), (11, i64 (pos t).2), (12, i64 t)], hp := [(2, .c (refArr (rhoN (theta f) t))), (4, .c (refArr fun _ => 0))], seen := [2, 4] }
def I_q4 (g : Nat → Nat) (k i : Nat) : St := { tm := [(1, u64 k), (2, .ptr 2 []), (4, .ptr 4 []), (13, .ptr 13 []), (14, i64 i)], hp := [(2, .c (refArr g)), (4, .c (refArr fun _ => 0)), (13, .c (refArr (bR g (5 * i))))], seen := [2, 4, 13] }
def I_q5 (g : Nat → Nat) (k i j : Nat) : St := { tm := [(1, u64 k), (2, .ptr 2 []), (4, .ptr 4 []), (13, .ptr 13 []), (14, i64 i), (15, i64 j)], hp := [(2, .c (refArr g)), (4, .c (refArr fun _ => 0)), (13, .c (refArr (bR g (5 * i + j))))], seen := [2, 4, 13] }
def I_q6 (g b : Nat → Nat) (k i : Nat) : St := { tm := [(1, u64 k), (2, .ptr 2 []), (4, .ptr 4 []), (13, .ptr 13 []), (16, i64 i)], hp := [(2, .c (refArr (part (chi b) g i 0))), (4, .c (refArr fun _ => 0)), (13, .c (refArr b))], seen := [2, 4, 13] }
def I_q7 (g b : Nat → Nat) (k i j : Nat) : St := { tm := [(1, u64 k), (2, .ptr 2 []), (4, .ptr 4 []), (13, .ptr 13 []), (16, i64 i), (17, i64 j)], hp := [(2, .c (refArr (part (chi b) g i j))), (4, .c (refArr fun _ => 0)), (13, .c (refArr b))], seen := [2, 4, 13] }

theorem left_A (n w : Nat) (K : Nat) (Φ : Ex → St → Prop) :
  (Holds C P 13 [] K Φ (vc C w_left b_left [] (start [i64 n, u64 w] []) lf)) =
  (((0 : Int) ≤ ((n : Nat) : Int)) ∧
 ((I64 ((64 : Int) - ((n : Nat) : Int))) ∧
 (((0 : Int) ≤ ((64 : Int) - ((n : Nat) : Int))) ∧
 (Φ Ex.ret (St.mk [((0 : Nat), (AV.v (Value.int IntKind.i64 ((n : Nat) : Int)))), ((1 : Nat), (AV.v (Value.int IntKind.u64 ((w : Nat) : Int)))), ((4 : Nat), (AV.v (Value.int IntKind.u64 (bOr IntKind.u64 (bShl IntKind.u64 ((w : Nat) : Int) ((n : Nat) : Int)) (bShr IntKind.u64 ((w : Nat) : Int) ((64 : Int) - ((n : Nat) : Int)))))))] [] []))))) := by kernel_rfl
theorem rwords_A  (K : Nat) (Φ : Ex → St → Prop) :
  (Holds C P 2 [] K Φ (vc C w_rwords b_rwords [] (start [] []) lf)) =
  ((((24 : Nat) = (24 : Nat)) ∧ (((1 : Nat) = (1 : Nat)) ∧ (∀ (i : Nat), ((i < (24 : Nat)) → (shp (AV.v (Value.int IntKind.u64 (0 : Int))) (layParts (fun (x : Nat) => (AV.v (Value.int IntKind.u64 (0 : Int)))) [((0 : Nat), (AV.v (Value.int IntKind.u64 (1 : Int)))), ((1 : Nat), (AV.v (Value.int IntKind.u64 (32898 : Int)))), ((2 : Nat), (AV.v (Value.int IntKind.u64 (9223372036854808714 : Int)))), ((3 : Nat), (AV.v (Value.int IntKind.u64 (9223372039002292224 : Int)))), ((4 : Nat), (AV.v (Value.int IntKind.u64 (32907 : Int)))), ((5 : Nat), (AV.v (Value.int IntKind.u64 (2147483649 : Int)))), ((6 : Nat), (AV.v (Value.int IntKind.u64 (9223372039002292353 : Int)))), ((7 : Nat), (AV.v (Value.int IntKind.u64 (9223372036854808585 : Int)))), ((8 : Nat), (AV.v (Value.int IntKind.u64 (138 : Int)))), ((9 : Nat), (AV.v (Value.int IntKind.u64 (136 : Int)))), ((10 : Nat), (AV.v (Value.int IntKind.u64 (2147516425 : Int)))), ((11 : Nat), (AV.v (Value.int IntKind.u64 (2147483658 : Int)))), ((12 : Nat), (AV.v (Value.int IntKind.u64 (2147516555 : Int)))), ((13 : Nat), (AV.v (Value.int IntKind.u64 (9223372036854775947 : Int)))), ((14 : Nat), (AV.v (Value.int IntKind.u64 (9223372036854808713 : Int)))), ((15 : Nat), (AV.v (Value.int IntKind.u64 (9223372036854808579 : Int)))), ((16 : Nat), (AV.v (Value.int IntKind.u64 (9223372036854808578 : Int)))), ((17 : Nat), (AV.v (Value.int IntKind.u64 (9223372036854775936 : Int)))), ((18 : Nat), (AV.v (Value.int IntKind.u64 (32778 : Int)))), ((19 : Nat), (AV.v (Value.int IntKind.u64 (9223372039002259466 : Int)))), ((20 : Nat), (AV.v (Value.int IntKind.u64 (9223372039002292353 : Int)))), ((21 : Nat), (AV.v (Value.int IntKind.u64 (9223372036854808704 : Int)))), ((22 : Nat), (AV.v (Value.int IntKind.u64 (2147483649 : Int)))), ((23 : Nat), (AV.v (Value.int IntKind.u64 (9223372039002292232 : Int))))] i)))))) ∧
 (Φ Ex.ret (St.mk [((0 : Nat), (AV.ptr (0 : Nat) []))] [((0 : Nat), (Blk.c (AV.arr (24 : Nat) (1 : Nat) (layParts (fun (x : Nat) => (AV.v (Value.int IntKind.u64 (0 : Int)))) [((0 : Nat), (AV.v (Value.int IntKind.u64 (1 : Int)))), ((1 : Nat), (AV.v (Value.int IntKind.u64 (32898 : Int)))), ((2 : Nat), (AV.v (Value.int IntKind.u64 (9223372036854808714 : Int)))), ((3 : Nat), (AV.v (Value.int IntKind.u64 (9223372039002292224 : Int)))), ((4 : Nat), (AV.v (Value.int IntKind.u64 (32907 : Int)))), ((5 : Nat), (AV.v (Value.int IntKind.u64 (2147483649 : Int)))), ((6 : Nat), (AV.v (Value.int IntKind.u64 (9223372039002292353 : Int)))), ((7 : Nat), (AV.v (Value.int IntKind.u64 (9223372036854808585 : Int)))), ((8 : Nat), (AV.v (Value.int IntKind.u64 (138 : Int)))), ((9 : Nat), (AV.v (Value.int IntKind.u64 (136 : Int)))), ((10 : Nat), (AV.v (Value.int IntKind.u64 (2147516425 : Int)))), ((11 : Nat), (AV.v (Value.int IntKind.u64 (2147483658 : Int)))), ((12 : Nat), (AV.v (Value.int IntKind.u64 (2147516555 : Int)))), ((13 : Nat), (AV.v (Value.int IntKind.u64 (9223372036854775947 : Int)))), ((14 : Nat), (AV.v (Value.int IntKind.u64 (9223372036854808713 : Int)))), ((15 : Nat), (AV.v (Value.int IntKind.u64 (9223372036854808579 : Int)))), ((16 : Nat), (AV.v (Value.int IntKind.u64 (9223372036854808578 : Int)))), ((17 : Nat), (AV.v (Value.int IntKind.u64 (9223372036854775936 : Int)))), ((18 : Nat), (AV.v (Value.int IntKind.u64 (32778 : Int)))), ((19 : Nat), (AV.v (Value.int IntKind.u64 (9223372039002259466 : Int)))), ((20 : Nat), (AV.v (Value.int IntKind.u64 (9223372039002292353 : Int)))), ((21 : Nat), (AV.v (Value.int IntKind.u64 (9223372036854808704 : Int)))), ((22 : Nat), (AV.v (Value.int IntKind.u64 (2147483649 : Int)))), ((23 : Nat), (AV.v (Value.int IntKind.u64 (9223372039002292232 : Int))))]))))] [(0 : Nat)]))) := by kernel_rfl
theorem rround_A (f : Nat → Nat) (k : Nat) (K : Nat) (Φ : Ex → St → Prop) :
  (Holds C P 173 [] K Φ (vc C w_rround b_rround [] (start [refArr f, u64 k] []) lf)) =
  ((((5 : Nat) = (5 : Nat)) ∧ (((1 : Nat) = (1 : Nat)) ∧ (∀ (i : Nat), ((i < (5 : Nat)) → ((true = true) ∧ (Bool.true = true)))))) ∧
 (LoopOK W.C W.P (173 : Nat) [] K (bodyAt b_rround [1, 1, 0, 1, 0]) (St.mk [((0 : Nat), (AV.arr (5 : Nat) (5 : Nat) (fun (x : Nat) => (AV.arr (5 : Nat) (1 : Nat) (fun (y : Nat) => (AV.v (Value.int IntKind.u64 (((f (x + ((5 : Nat) * y))) : Nat) : Int)))))))), ((1 : Nat), (AV.v (Value.int IntKind.u64 ((k : Nat) : Int)))), ((2 : Nat), (AV.ptr (2 : Nat) [])), ((4 : Nat), (AV.ptr (4 : Nat) [])), ((5 : Nat), (AV.ptr (5 : Nat) [])), ((6 : Nat), (AV.v (Value.int IntKind.i64 (0 : Int))))] [((2 : Nat), (Blk.c (AV.arr (5 : Nat) (5 : Nat) (fun (x : Nat) => (AV.arr (5 : Nat) (1 : Nat) (fun (y : Nat) => (AV.v (Value.int IntKind.u64 (((f (x + ((5 : Nat) * y))) : Nat) : Int))))))))), ((4 : Nat), (Blk.c (AV.arr (5 : Nat) (5 : Nat) (fun (x : Nat) => (AV.arr (5 : Nat) (1 : Nat) (fun (x1 : Nat) => (AV.v (Value.int IntKind.u64 (0 : Int))))))))), ((5 : Nat), (Blk.c (AV.arr (5 : Nat) (1 : Nat) (fun (x : Nat) => (AV.v (Value.int IntKind.u64 (0 : Int)))))))] [(5 : Nat), (4 : Nat), (2 : Nat)]) (fun (e : Ex) (S' : St) => Holds W.C W.P (173 : Nat) [] K Φ (after W.C w_rround b_rround [1, 1, 0, 1, 0] [] lf e S')))) := by kernel_rfl
noncomputable abbrev bd_rround_0 : Code := bodyAt (b_rround) [1, 1, 0, 1, 0]
theorem ok_rround_0 : codeOK bd_rround_0 = true := by kernel_rfl
noncomputable abbrev rest_rround_0 (K : Nat) (Φ : Ex → St → Prop) : Ex → St → Prop := fun e S' => Holds C P 173 [] K Φ (after C w_rround (b_rround) [1, 1, 0, 1, 0] [] lf e S')
theorem rround_L0 (f : Nat → Nat) (k i : Nat) (K : Nat) (Φ : Ex → St → Prop) :
  (Holds C P 173 [] K (RoundQ C 173 [] K (I_q0 f k) (fun i => i ≤ 5) (fun i => 5 - i) ((fun i => 5 - i) (i)) (rest_rround_0 K Φ)) (vc C w_rround bd_rround_0 [] ((I_q0 f k) (i)) lf)) =
  (((decide (((i : Nat) : Int) < (5 : Int))) = true → 
 ((((0 : Int) ≤ ((i : Nat) : Int)) ∧ (((i : Nat) : Int) < (5 : Int))) ∧
  ((((0 : Int) ≤ (0 : Int)) ∧ ((0 : Int) < (5 : Int))) ∧
  ((((0 : Int) ≤ ((i : Nat) : Int)) ∧ (((i : Nat) : Int) < (5 : Int))) ∧
  ((((0 : Int) ≤ (1 : Int)) ∧ ((1 : Int) < (5 : Int))) ∧
  ((((0 : Int) ≤ ((i : Nat) : Int)) ∧ (((i : Nat) : Int) < (5 : Int))) ∧
  ((((0 : Int) ≤ (2 : Int)) ∧ ((2 : Int) < (5 : Int))) ∧
  ((((0 : Int) ≤ ((i : Nat) : Int)) ∧ (((i : Nat) : Int) < (5 : Int))) ∧
  ((((0 : Int) ≤ (3 : Int)) ∧ ((3 : Int) < (5 : Int))) ∧
  ((((0 : Int) ≤ ((i : Nat) : Int)) ∧ (((i : Nat) : Int) < (5 : Int))) ∧
  ((((0 : Int) ≤ (4 : Int)) ∧ ((4 : Int) < (5 : Int))) ∧
  ((((0 : Int) ≤ ((i : Nat) : Int)) ∧ (((i : Nat) : Int) < (5 : Int))) ∧
  ((I64 (((i + 1) : Nat) : Int)) ∧
  ((RoundQ C 173 [] K (I_q0 f k) (fun i => i ≤ 5) (fun i => 5 - i) ((fun i => 5 - i) (i)) (rest_rround_0 K Φ)) Ex.normal (St.mk [((1 : Nat), (AV.v (Value.int IntKind.u64 ((k : Nat) : Int)))), ((2 : Nat), (AV.ptr (2 : Nat) [])), ((4 : Nat), (AV.ptr (4 : Nat) [])), ((5 : Nat), (AV.ptr (5 : Nat) [])), ((6 : Nat), (AV.v (Value.int IntKind.i64 (((i + 1) : Nat) : Int)))), ((20 : Nat), (AV.v (Value.bool true)))] [((2 : Nat), (Blk.c (AV.arr (5 : Nat) (5 : Nat) (fun (x : Nat) => (AV.arr (5 : Nat) (1 : Nat) (fun (y : Nat) => (AV.v (Value.int IntKind.u64 (((f (x + ((5 : Nat) * y))) : Nat) : Int))))))))), ((4 : Nat), (Blk.c (AV.arr (5 : Nat) (5 : Nat) (fun (x : Nat) => (AV.arr (5 : Nat) (1 : Nat) (fun (y : Nat) => (AV.v (Value.int IntKind.u64 (((0 : Nat) : Nat) : Int))))))))), ((5 : Nat), (Blk.c (AV.arr (5 : Nat) (1 : Nat) (fun (j : Nat) => (if (j = i) then (AV.v (Value.int IntKind.u64 (bXor IntKind.u64 (bXor IntKind.u64 (bXor IntKind.u64 (bXor IntKind.u64 (((f i) : Nat) : Int) (((f (i + (5 : Nat))) : Nat) : Int)) (((f (i + (10 : Nat))) : Nat) : Int)) (((f (i + (15 : Nat))) : Nat) : Int)) (((f (i + (20 : Nat))) : Nat) : Int)))) else (AV.v (Value.int IntKind.u64 (((if (j < i) then (W.colN f j) else (0 : Nat)) : Nat) : Int))))))))] [(2 : Nat), (4 : Nat), (5 : Nat)]))))))))))))))) ∧
 ((decide (((i : Nat) : Int) < (5 : Int))) = false → 
 (LoopOK W.C W.P (173 : Nat) [] K (bodyAt b_rround [1, 1, 1, 0, 1, 0]) (St.mk [((1 : Nat), (AV.v (Value.int IntKind.u64 ((k : Nat) : Int)))), ((2 : Nat), (AV.ptr (2 : Nat) [])), ((4 : Nat), (AV.ptr (4 : Nat) [])), ((5 : Nat), (AV.ptr (5 : Nat) [])), ((6 : Nat), (AV.v (Value.int IntKind.i64 ((i : Nat) : Int)))), ((7 : Nat), (AV.v (Value.int IntKind.i64 (0 : Int)))), ((20 : Nat), (AV.v (Value.bool false)))] [((2 : Nat), (Blk.c (AV.arr (5 : Nat) (5 : Nat) (fun (x : Nat) => (AV.arr (5 : Nat) (1 : Nat) (fun (y : Nat) => (AV.v (Value.int IntKind.u64 (((f (x + ((5 : Nat) * y))) : Nat) : Int))))))))), ((4 : Nat), (Blk.c (AV.arr (5 : Nat) (5 : Nat) (fun (x : Nat) => (AV.arr (5 : Nat) (1 : Nat) (fun (y : Nat) => (AV.v (Value.int IntKind.u64 (((0 : Nat) : Nat) : Int))))))))), ((5 : Nat), (Blk.c (AV.arr (5 : Nat) (1 : Nat) (fun (i1 : Nat) => (AV.v (Value.int IntKind.u64 (((if (i1 < i) then (W.colN f i1) else (0 : Nat)) : Nat) : Int)))))))] [(2 : Nat), (4 : Nat), (5 : Nat)]) (fun (e : Ex) (S' : St) => Holds W.C W.P (173 : Nat) [] K Φ (after W.C w_rround b_rround [1, 1, 1, 0, 1, 0] [] lf e S'))))) := by kernel_rfl
noncomputable abbrev bd_rround_1 : Code := bodyAt (b_rround) [1, 1, 1, 0, 1, 0]
theorem ok_rround_1 : codeOK bd_rround_1 = true := by kernel_rfl
noncomputable abbrev rest_rround_1 (K : Nat) (Φ : Ex → St → Prop) : Ex → St → Prop := fun e S' => Holds C P 173 [] K Φ (after C w_rround (b_rround) [1, 1, 1, 0, 1, 0] [] lf e S')
theorem rround_L1 (f : Nat → Nat) (k i : Nat) (K : Nat) (Φ : Ex → St → Prop) :
  (Holds C P 173 [] K (RoundQ C 173 [] K (I_q1 f k) (fun i => i ≤ 5) (fun i => 5 - i) ((fun i => 5 - i) (i)) (rest_rround_1 K Φ)) (vc C w_rround bd_rround_1 [] ((I_q1 f k) (i)) lf)) =
  (((decide (((i : Nat) : Int) < (5 : Int))) = true → 
 ((I64 (((i + 4) : Nat) : Int)) ∧
  (((5 : Int) ≠ (0 : Int)) ∧
  ((((0 : Int) ≤ ((((i + 4) % 5) : Nat) : Int)) ∧ (((((i + 4) % 5) : Nat) : Int) < (5 : Int))) ∧
  ((I64 (((i + 1) : Nat) : Int)) ∧
  (((5 : Int) ≠ (0 : Int)) ∧
  ((((0 : Int) ≤ ((((i + 1) % 5) : Nat) : Int)) ∧ (((((i + 1) % 5) : Nat) : Int) < (5 : Int))) ∧
  (Fun W.C W.P (49 : Nat) [(AV.v (Value.int IntKind.i64 (1 : Int))), (AV.v (Value.int IntKind.u64 (((Sp.cN f (25 : Nat) ((i + 1) % 5)) : Nat) : Int)))] [] (AV.v (Value.int IntKind.u64 (((Sp.rotl (Sp.cN f (25 : Nat) ((i + 1) % 5)) (1 : Nat)) : Nat) : Int))) [] ∧
  (True ∧
  (LoopOK W.C W.P (173 : Nat) [] K (bodyAt bd_rround_1 [1, 0, 0, 1, 1, 0]) (St.mk [((1 : Nat), (AV.v (Value.int IntKind.u64 ((k : Nat) : Int)))), ((2 : Nat), (AV.ptr (2 : Nat) [])), ((4 : Nat), (AV.ptr (4 : Nat) [])), ((5 : Nat), (AV.ptr (5 : Nat) [])), ((7 : Nat), (AV.v (Value.int IntKind.i64 ((i : Nat) : Int)))), ((8 : Nat), (AV.v (Value.int IntKind.u64 (bXor IntKind.u64 (((Sp.cN f (25 : Nat) ((i + 4) % 5)) : Nat) : Int) (((Sp.rotl (Sp.cN f (25 : Nat) ((i + 1) % 5)) (1 : Nat)) : Nat) : Int))))), ((9 : Nat), (AV.v (Value.int IntKind.i64 (0 : Int)))), ((50 : Nat), (AV.v (Value.bool true)))] [((2 : Nat), (Blk.c (AV.arr (5 : Nat) (5 : Nat) (fun (x : Nat) => (AV.arr (5 : Nat) (1 : Nat) (fun (y : Nat) => (AV.v (Value.int IntKind.u64 (((W.part (Sp.theta f) f i (0 : Nat) (x + ((5 : Nat) * y))) : Nat) : Int))))))))), ((4 : Nat), (Blk.c (AV.arr (5 : Nat) (5 : Nat) (fun (x : Nat) => (AV.arr (5 : Nat) (1 : Nat) (fun (y : Nat) => (AV.v (Value.int IntKind.u64 (((0 : Nat) : Nat) : Int))))))))), ((5 : Nat), (Blk.c (AV.arr (5 : Nat) (1 : Nat) (fun (i1 : Nat) => (AV.v (Value.int IntKind.u64 (((Sp.cN f (25 : Nat) i1) : Nat) : Int)))))))] [(2 : Nat), (4 : Nat), (5 : Nat)]) (fun (e : Ex) (S' : St) => Holds W.C W.P (173 : Nat) [] K (RoundQ C 173 [] K (I_q1 f k) (fun i => i ≤ 5) (fun i => 5 - i) ((fun i => 5 - i) (i)) (rest_rround_1 K Φ)) (after W.C w_rround bd_rround_1 [1, 0, 0, 1, 1, 0] [] lf e S')))))))))))) ∧
 ((decide (((i : Nat) : Int) < (5 : Int))) = false → 
 (LoopOK W.C W.P (173 : Nat) [] K (bodyAt b_rround [1, 1, 1, 1, 1, 1, 0, 1, 0]) (St.mk [((1 : Nat), (AV.v (Value.int IntKind.u64 ((k : Nat) : Int)))), ((2 : Nat), (AV.ptr (2 : Nat) [])), ((4 : Nat), (AV.ptr (4 : Nat) [])), ((5 : Nat), (AV.ptr (5 : Nat) [])), ((7 : Nat), (AV.v (Value.int IntKind.i64 ((i : Nat) : Int)))), ((10 : Nat), (AV.v (Value.int IntKind.i64 (1 : Int)))), ((11 : Nat), (AV.v (Value.int IntKind.i64 (0 : Int)))), ((12 : Nat), (AV.v (Value.int IntKind.i64 (0 : Int)))), ((50 : Nat), (AV.v (Value.bool false)))] [((2 : Nat), (Blk.c (AV.arr (5 : Nat) (5 : Nat) (fun (x : Nat) => (AV.arr (5 : Nat) (1 : Nat) (fun (y : Nat) => (AV.v (Value.int IntKind.u64 (((W.part (Sp.theta f) f i (0 : Nat) (x + ((5 : Nat) * y))) : Nat) : Int))))))))), ((4 : Nat), (Blk.c (AV.arr (5 : Nat) (5 : Nat) (fun (x : Nat) => (AV.arr (5 : Nat) (1 : Nat) (fun (y : Nat) => (AV.v (Value.int IntKind.u64 (((0 : Nat) : Nat) : Int))))))))), ((5 : Nat), (Blk.c (AV.arr (5 : Nat) (1 : Nat) (fun (i1 : Nat) => (AV.v (Value.int IntKind.u64 (((Sp.cN f (25 : Nat) i1) : Nat) : Int)))))))] [(2 : Nat), (4 : Nat), (5 : Nat)]) (fun (e : Ex) (S' : St) => Holds W.C W.P (173 : Nat) [] K Φ (after W.C w_rround b_rround [1, 1, 1, 1, 1, 1, 0, 1, 0] [] lf e S'))))) := by kernel_rfl
noncomputable abbrev bd_rround_2 : Code := bodyAt (bd_rround_1) [1, 0, 0, 1, 1, 0]
theorem ok_rround_2 : codeOK bd_rround_2 = true := by kernel_rfl
noncomputable abbrev rest_rround_2 (K : Nat) (Φ : Ex → St → Prop) : Ex → St → Prop := fun e S' => Holds C P 173 [] K Φ (after C w_rround (bd_rround_1) [1, 0, 0, 1, 1, 0] [] lf e S')
theorem rround_L2 (f : Nat → Nat) (k i y : Nat) (K : Nat) (Φ : Ex → St → Prop) :
  (Holds C P 173 [] K (RoundQ C 173 [] K (I_q2 f k i) (fun y => y ≤ 5) (fun y => 5 - y) ((fun y => 5 - y) (y)) (rest_rround_2 K Φ)) (vc C w_rround bd_rround_2 [] ((I_q2 f k i) (y)) lf)) =
  (((decide (((y : Nat) : Int) < (5 : Int))) = true → 
 ((((0 : Int) ≤ ((i : Nat) : Int)) ∧ (((i : Nat) : Int) < (5 : Int))) ∧
  ((((0 : Int) ≤ ((y : Nat) : Int)) ∧ (((y : Nat) : Int) < (5 : Int))) ∧
  ((((0 : Int) ≤ ((i : Nat) : Int)) ∧ (((i : Nat) : Int) < (5 : Int))) ∧
  ((((0 : Int) ≤ ((y : Nat) : Int)) ∧ (((y : Nat) : Int) < (5 : Int))) ∧
  ((I64 (((y + 1) : Nat) : Int)) ∧
  ((RoundQ C 173 [] K (I_q2 f k i) (fun y => y ≤ 5) (fun y => 5 - y) ((fun y => 5 - y) (y)) (rest_rround_2 K Φ)) Ex.normal (St.mk [((1 : Nat), (AV.v (Value.int IntKind.u64 ((k : Nat) : Int)))), ((2 : Nat), (AV.ptr (2 : Nat) [])), ((4 : Nat), (AV.ptr (4 : Nat) [])), ((5 : Nat), (AV.ptr (5 : Nat) [])), ((7 : Nat), (AV.v (Value.int IntKind.i64 ((i : Nat) : Int)))), ((8 : Nat), (AV.v (Value.int IntKind.u64 (((W.dlN f i) : Nat) : Int)))), ((9 : Nat), (AV.v (Value.int IntKind.i64 (((y + 1) : Nat) : Int)))), ((66 : Nat), (AV.v (Value.bool true)))] [((2 : Nat), (Blk.c (AV.arr (5 : Nat) (5 : Nat) (fun (j : Nat) => (if (j = i) then (AV.arr (5 : Nat) (1 : Nat) (fun (j1 : Nat) => (if (j1 = y) then (AV.v (Value.int IntKind.u64 (bXor IntKind.u64 (((W.part (Sp.theta f) f i y (i + ((5 : Nat) * y))) : Nat) : Int) (((W.dlN f i) : Nat) : Int)))) else (AV.v (Value.int IntKind.u64 (((W.part (Sp.theta f) f i y (i + ((5 : Nat) * j1))) : Nat) : Int)))))) else (AV.arr (5 : Nat) (1 : Nat) (fun (y1 : Nat) => (AV.v (Value.int IntKind.u64 (((W.part (Sp.theta f) f i y (j + ((5 : Nat) * y1))) : Nat) : Int)))))))))), ((4 : Nat), (Blk.c (AV.arr (5 : Nat) (5 : Nat) (fun (x : Nat) => (AV.arr (5 : Nat) (1 : Nat) (fun (y1 : Nat) => (AV.v (Value.int IntKind.u64 (((0 : Nat) : Nat) : Int))))))))), ((5 : Nat), (Blk.c (AV.arr (5 : Nat) (1 : Nat) (fun (i1 : Nat) => (AV.v (Value.int IntKind.u64 (((Sp.cN f (25 : Nat) i1) : Nat) : Int)))))))] [(2 : Nat), (4 : Nat), (5 : Nat)])))))))) ∧
 ((decide (((y : Nat) : Int) < (5 : Int))) = false → 
 ((I64 (((i + 1) : Nat) : Int)) ∧
  (Φ Ex.normal (St.mk [((1 : Nat), (AV.v (Value.int IntKind.u64 ((k : Nat) : Int)))), ((2 : Nat), (AV.ptr (2 : Nat) [])), ((4 : Nat), (AV.ptr (4 : Nat) [])), ((5 : Nat), (AV.ptr (5 : Nat) [])), ((7 : Nat), (AV.v (Value.int IntKind.i64 (((i + 1) : Nat) : Int)))), ((8 : Nat), (AV.v (Value.int IntKind.u64 (((W.dlN f i) : Nat) : Int)))), ((9 : Nat), (AV.v (Value.int IntKind.i64 ((y : Nat) : Int)))), ((66 : Nat), (AV.v (Value.bool false)))] [((2 : Nat), (Blk.c (AV.arr (5 : Nat) (5 : Nat) (fun (x : Nat) => (AV.arr (5 : Nat) (1 : Nat) (fun (y1 : Nat) => (AV.v (Value.int IntKind.u64 (((W.part (Sp.theta f) f i y (x + ((5 : Nat) * y1))) : Nat) : Int))))))))), ((4 : Nat), (Blk.c (AV.arr (5 : Nat) (5 : Nat) (fun (x : Nat) => (AV.arr (5 : Nat) (1 : Nat) (fun (y1 : Nat) => (AV.v (Value.int IntKind.u64 (((0 : Nat) : Nat) : Int))))))))), ((5 : Nat), (Blk.c (AV.arr (5 : Nat) (1 : Nat) (fun (i1 : Nat) => (AV.v (Value.int IntKind.u64 (((Sp.cN f (25 : Nat) i1) : Nat) : Int)))))))] [(2 : Nat), (4 : Nat), (5 : Nat)]))))) := by kernel_rfl
noncomputable abbrev bd_rround_3 : Code := bodyAt (b_rround) [1, 1, 1, 1, 1, 1, 0, 1, 0]
theorem ok_rround_3 : codeOK bd_rround_3 = true := by kernel_rfl
noncomputable abbrev rest_rround_3 (K : Nat) (Φ : Ex → St → Prop) : Ex → St → Prop := fun e S' => Holds C P 173 [] K Φ (after C w_rround (b_rround) [1, 1, 1, 1, 1, 1, 0, 1, 0] [] lf e S')
theorem rround_L3 (f : Nat → Nat) (k i : Nat) (K : Nat) (Φ : Ex → St → Prop) :
  (Holds C P 173 [] K (RoundQ C 173 [] K (I_q3 f k) (fun i => i ≤ 24) (fun i => 24 - i) ((fun i => 24 - i) (i)) (rest_rround_3 K Φ)) (vc C w_rround bd_rround_3 [] ((I_q3 f k) (i)) lf)) =
  (((decide (((i : Nat) : Int) < (24 : Int))) = true → 
 ((I64 (((i + 1) : Nat) : Int)) ∧
  ((I64 (((i + 2) : Nat) : Int)) ∧
  ((I64 ((((i + 1) * (i + 2)) : Nat) : Int)) ∧
  (((2 : Int) ≠ (0 : Int)) ∧
  ((I64 (((((i + 1) * (i + 2)) / 2) : Nat) : Int)) ∧
  (((64 : Int) ≠ (0 : Int)) ∧
  ((((0 : Int) ≤ (((Prod.fst (W.pos i)) : Nat) : Int)) ∧ ((((Prod.fst (W.pos i)) : Nat) : Int) < (5 : Int))) ∧
  ((((0 : Int) ≤ (((Prod.snd (W.pos i)) : Nat) : Int)) ∧ ((((Prod.snd (W.pos i)) : Nat) : Int) < (5 : Int))) ∧
  (Fun W.C W.P (49 : Nat) [(AV.v (Value.int IntKind.i64 ((((((i + 1) * (i + 2)) / 2) % 64) : Nat) : Int))), (AV.v (Value.int IntKind.u64 (((W.rhoN (Sp.theta f) i ((Prod.fst (W.pos i)) + ((5 : Nat) * (Prod.snd (W.pos i))))) : Nat) : Int)))] [] (AV.v (Value.int IntKind.u64 (((Sp.rotl (W.rhoN (Sp.theta f) i ((Prod.fst (W.pos i)) + ((5 : Nat) * (Prod.snd (W.pos i))))) ((((i + 1) * (i + 2)) / 2) % 64)) : Nat) : Int))) [] ∧
  (True ∧
  ((((0 : Int) ≤ (((Prod.fst (W.pos i)) : Nat) : Int)) ∧ ((((Prod.fst (W.pos i)) : Nat) : Int) < (5 : Int))) ∧
  ((((0 : Int) ≤ (((Prod.snd (W.pos i)) : Nat) : Int)) ∧ ((((Prod.snd (W.pos i)) : Nat) : Int) < (5 : Int))) ∧
  ((I64 (((2 * (Prod.fst (W.pos i))) : Nat) : Int)) ∧
  ((I64 (((3 * (Prod.snd (W.pos i))) : Nat) : Int)) ∧
  ((I64 ((((2 * (Prod.fst (W.pos i))) + (3 * (Prod.snd (W.pos i)))) : Nat) : Int)) ∧
  (((5 : Int) ≠ (0 : Int)) ∧
  ((I64 (((i + 1) : Nat) : Int)) ∧
  ((RoundQ C 173 [] K (I_q3 f k) (fun i => i ≤ 24) (fun i => 24 - i) ((fun i => 24 - i) (i)) (rest_rround_3 K Φ)) Ex.normal (St.mk [((1 : Nat), (AV.v (Value.int IntKind.u64 ((k : Nat) : Int)))), ((2 : Nat), (AV.ptr (2 : Nat) [])), ((4 : Nat), (AV.ptr (4 : Nat) [])), ((10 : Nat), (AV.v (Value.int IntKind.i64 (((Prod.snd (W.pos i)) : Nat) : Int)))), ((11 : Nat), (AV.v (Value.int IntKind.i64 (((((2 * (Prod.fst (W.pos i))) + (3 * (Prod.snd (W.pos i)))) % 5) : Nat) : Int)))), ((12 : Nat), (AV.v (Value.int IntKind.i64 (((i + 1) : Nat) : Int)))), ((81 : Nat), (AV.v (Value.bool true)))] [((2 : Nat), (Blk.c (AV.arr (5 : Nat) (5 : Nat) (fun (j : Nat) => (if (j = (Prod.fst (W.pos i))) then (AV.arr (5 : Nat) (1 : Nat) (fun (j1 : Nat) => (if (j1 = (Prod.snd (W.pos i))) then (AV.v (Value.int IntKind.u64 (((Sp.rotl (W.rhoN (Sp.theta f) i ((Prod.fst (W.pos i)) + ((5 : Nat) * (Prod.snd (W.pos i))))) ((((i + 1) * (i + 2)) / 2) % 64)) : Nat) : Int))) else (AV.v (Value.int IntKind.u64 (((W.rhoN (Sp.theta f) i ((Prod.fst (W.pos i)) + ((5 : Nat) * j1))) : Nat) : Int)))))) else (AV.arr (5 : Nat) (1 : Nat) (fun (y : Nat) => (AV.v (Value.int IntKind.u64 (((W.rhoN (Sp.theta f) i (j + ((5 : Nat) * y))) : Nat) : Int)))))))))), ((4 : Nat), (Blk.c (AV.arr (5 : Nat) (5 : Nat) (fun (x : Nat) => (AV.arr (5 : Nat) (1 : Nat) (fun (y : Nat) => (AV.v (Value.int IntKind.u64 (((0 : Nat) : Nat) : Int)))))))))] [(2 : Nat), (4 : Nat)])))))))))))))))))))) ∧
 ((decide (((i : Nat) : Int) < (24 : Int))) = false → 
 ((((5 : Nat) = (5 : Nat)) ∧ (((5 : Nat) = (5 : Nat)) ∧ (∀ (i1 : Nat), ((i1 < (5 : Nat)) → (((5 : Nat) = (5 : Nat)) ∧ (((1 : Nat) = (1 : Nat)) ∧ (∀ (i2 : Nat), ((i2 < (5 : Nat)) → ((true = true) ∧ (true = true)))))))))) ∧
  (LoopOK W.C W.P (173 : Nat) [] K (bodyAt b_rround [1, 1, 1, 1, 1, 1, 1, 1, 0, 1, 0]) (St.mk [((1 : Nat), (AV.v (Value.int IntKind.u64 ((k : Nat) : Int)))), ((2 : Nat), (AV.ptr (2 : Nat) [])), ((4 : Nat), (AV.ptr (4 : Nat) [])), ((10 : Nat), (AV.v (Value.int IntKind.i64 (((Prod.fst (W.pos i)) : Nat) : Int)))), ((11 : Nat), (AV.v (Value.int IntKind.i64 (((Prod.snd (W.pos i)) : Nat) : Int)))), ((12 : Nat), (AV.v (Value.int IntKind.i64 ((i : Nat) : Int)))), ((13 : Nat), (AV.ptr (13 : Nat) [])), ((14 : Nat), (AV.v (Value.int IntKind.i64 (0 : Int)))), ((81 : Nat), (AV.v (Value.bool false)))] [((2 : Nat), (Blk.c (AV.arr (5 : Nat) (5 : Nat) (fun (x : Nat) => (AV.arr (5 : Nat) (1 : Nat) (fun (y : Nat) => (AV.v (Value.int IntKind.u64 (((W.rhoN (Sp.theta f) i (x + ((5 : Nat) * y))) : Nat) : Int))))))))), ((4 : Nat), (Blk.c (AV.arr (5 : Nat) (5 : Nat) (fun (x : Nat) => (AV.arr (5 : Nat) (1 : Nat) (fun (y : Nat) => (AV.v (Value.int IntKind.u64 (((0 : Nat) : Nat) : Int))))))))), ((13 : Nat), (Blk.c (AV.arr (5 : Nat) (5 : Nat) (fun (x : Nat) => (AV.arr (5 : Nat) (1 : Nat) (fun (x1 : Nat) => (AV.v (Value.int IntKind.u64 (0 : Int)))))))))] [(13 : Nat), (2 : Nat), (4 : Nat)]) (fun (e : Ex) (S' : St) => Holds W.C W.P (173 : Nat) [] K Φ (after W.C w_rround b_rround [1, 1, 1, 1, 1, 1, 1, 1, 0, 1, 0] [] lf e S')))))) := by kernel_rfl
noncomputable abbrev bd_rround_4 : Code := bodyAt (b_rround) [1, 1, 1, 1, 1, 1, 1, 1, 0, 1, 0]
theorem ok_rround_4 : codeOK bd_rround_4 = true := by kernel_rfl
noncomputable abbrev rest_rround_4 (K : Nat) (Φ : Ex → St → Prop) : Ex → St → Prop := fun e S' => Holds C P 173 [] K Φ (after C w_rround (b_rround) [1, 1, 1, 1, 1, 1, 1, 1, 0, 1, 0] [] lf e S')
theorem rround_L4 (g : Nat → Nat) (k i : Nat) (K : Nat) (Φ : Ex → St → Prop) :
  (Holds C P 173 [] K (RoundQ C 173 [] K (I_q4 g k) (fun i => i ≤ 5) (fun i => 5 - i) ((fun i => 5 - i) (i)) (rest_rround_4 K Φ)) (vc C w_rround bd_rround_4 [] ((I_q4 g k) (i)) lf)) =
  (((decide (((i : Nat) : Int) < (5 : Int))) = true → 
 (LoopOK W.C W.P (173 : Nat) [] K (bodyAt bd_rround_4 [1, 0, 0, 1, 0]) (St.mk [((1 : Nat), (AV.v (Value.int IntKind.u64 ((k : Nat) : Int)))), ((2 : Nat), (AV.ptr (2 : Nat) [])), ((4 : Nat), (AV.ptr (4 : Nat) [])), ((13 : Nat), (AV.ptr (13 : Nat) [])), ((14 : Nat), (AV.v (Value.int IntKind.i64 ((i : Nat) : Int)))), ((15 : Nat), (AV.v (Value.int IntKind.i64 (0 : Int)))), ((110 : Nat), (AV.v (Value.bool true)))] [((2 : Nat), (Blk.c (AV.arr (5 : Nat) (5 : Nat) (fun (x : Nat) => (AV.arr (5 : Nat) (1 : Nat) (fun (y : Nat) => (AV.v (Value.int IntKind.u64 (((g (x + ((5 : Nat) * y))) : Nat) : Int))))))))), ((4 : Nat), (Blk.c (AV.arr (5 : Nat) (5 : Nat) (fun (x : Nat) => (AV.arr (5 : Nat) (1 : Nat) (fun (y : Nat) => (AV.v (Value.int IntKind.u64 (((0 : Nat) : Nat) : Int))))))))), ((13 : Nat), (Blk.c (AV.arr (5 : Nat) (5 : Nat) (fun (x : Nat) => (AV.arr (5 : Nat) (1 : Nat) (fun (y : Nat) => (AV.v (Value.int IntKind.u64 (((W.bR g ((5 : Nat) * i) (x + ((5 : Nat) * y))) : Nat) : Int)))))))))] [(2 : Nat), (4 : Nat), (13 : Nat)]) (fun (e : Ex) (S' : St) => Holds W.C W.P (173 : Nat) [] K (RoundQ C 173 [] K (I_q4 g k) (fun i => i ≤ 5) (fun i => 5 - i) ((fun i => 5 - i) (i)) (rest_rround_4 K Φ)) (after W.C w_rround bd_rround_4 [1, 0, 0, 1, 0] [] lf e S')))) ∧
 ((decide (((i : Nat) : Int) < (5 : Int))) = false → 
 (LoopOK W.C W.P (173 : Nat) [] K (bodyAt b_rround [1, 1, 1, 1, 1, 1, 1, 1, 1, 0, 1, 0]) (St.mk [((1 : Nat), (AV.v (Value.int IntKind.u64 ((k : Nat) : Int)))), ((2 : Nat), (AV.ptr (2 : Nat) [])), ((4 : Nat), (AV.ptr (4 : Nat) [])), ((13 : Nat), (AV.ptr (13 : Nat) [])), ((14 : Nat), (AV.v (Value.int IntKind.i64 ((i : Nat) : Int)))), ((16 : Nat), (AV.v (Value.int IntKind.i64 (0 : Int)))), ((110 : Nat), (AV.v (Value.bool false)))] [((2 : Nat), (Blk.c (AV.arr (5 : Nat) (5 : Nat) (fun (x : Nat) => (AV.arr (5 : Nat) (1 : Nat) (fun (y : Nat) => (AV.v (Value.int IntKind.u64 (((g (x + ((5 : Nat) * y))) : Nat) : Int))))))))), ((4 : Nat), (Blk.c (AV.arr (5 : Nat) (5 : Nat) (fun (x : Nat) => (AV.arr (5 : Nat) (1 : Nat) (fun (y : Nat) => (AV.v (Value.int IntKind.u64 (((0 : Nat) : Nat) : Int))))))))), ((13 : Nat), (Blk.c (AV.arr (5 : Nat) (5 : Nat) (fun (x : Nat) => (AV.arr (5 : Nat) (1 : Nat) (fun (y : Nat) => (AV.v (Value.int IntKind.u64 (((W.bR g ((5 : Nat) * i) (x + ((5 : Nat) * y))) : Nat) : Int)))))))))] [(2 : Nat), (4 : Nat), (13 : Nat)]) (fun (e : Ex) (S' : St) => Holds W.C W.P (173 : Nat) [] K Φ (after W.C w_rround b_rround [1, 1, 1, 1, 1, 1, 1, 1, 1, 0, 1, 0] [] lf e S'))))) := by kernel_rfl
noncomputable abbrev bd_rround_5 : Code := bodyAt (bd_rround_4) [1, 0, 0, 1, 0]
theorem ok_rround_5 : codeOK bd_rround_5 = true := by kernel_rfl
noncomputable abbrev rest_rround_5 (K : Nat) (Φ : Ex → St → Prop) : Ex → St → Prop := fun e S' => Holds C P 173 [] K Φ (after C w_rround (bd_rround_4) [1, 0, 0, 1, 0] [] lf e S')
theorem rround_L5 (g : Nat → Nat) (k i y : Nat) (K : Nat) (Φ : Ex → St → Prop) :
  (Holds C P 173 [] K (RoundQ C 173 [] K (I_q5 g k i) (fun y => y ≤ 5) (fun y => 5 - y) ((fun y => 5 - y) (y)) (rest_rround_5 K Φ)) (vc C w_rround bd_rround_5 [] ((I_q5 g k i) (y)) lf)) =
  (((decide (((y : Nat) : Int) < (5 : Int))) = true → 
 ((I64 (((2 * i) : Nat) : Int)) ∧
  ((I64 (((3 * y) : Nat) : Int)) ∧
  ((I64 ((((2 * i) + (3 * y)) : Nat) : Int)) ∧
  (((5 : Int) ≠ (0 : Int)) ∧
  ((((0 : Int) ≤ ((i : Nat) : Int)) ∧ (((i : Nat) : Int) < (5 : Int))) ∧
  ((((0 : Int) ≤ ((y : Nat) : Int)) ∧ (((y : Nat) : Int) < (5 : Int))) ∧
  ((((0 : Int) ≤ ((y : Nat) : Int)) ∧ (((y : Nat) : Int) < (5 : Int))) ∧
  ((((0 : Int) ≤ (((((2 * i) + (3 * y)) % 5) : Nat) : Int)) ∧ ((((((2 * i) + (3 * y)) % 5) : Nat) : Int) < (5 : Int))) ∧
  ((I64 (((y + 1) : Nat) : Int)) ∧
  ((RoundQ C 173 [] K (I_q5 g k i) (fun y => y ≤ 5) (fun y => 5 - y) ((fun y => 5 - y) (y)) (rest_rround_5 K Φ)) Ex.normal (St.mk [((1 : Nat), (AV.v (Value.int IntKind.u64 ((k : Nat) : Int)))), ((2 : Nat), (AV.ptr (2 : Nat) [])), ((4 : Nat), (AV.ptr (4 : Nat) [])), ((13 : Nat), (AV.ptr (13 : Nat) [])), ((14 : Nat), (AV.v (Value.int IntKind.i64 ((i : Nat) : Int)))), ((15 : Nat), (AV.v (Value.int IntKind.i64 (((y + 1) : Nat) : Int)))), ((114 : Nat), (AV.v (Value.bool true)))] [((2 : Nat), (Blk.c (AV.arr (5 : Nat) (5 : Nat) (fun (x : Nat) => (AV.arr (5 : Nat) (1 : Nat) (fun (y1 : Nat) => (AV.v (Value.int IntKind.u64 (((g (x + ((5 : Nat) * y1))) : Nat) : Int))))))))), ((4 : Nat), (Blk.c (AV.arr (5 : Nat) (5 : Nat) (fun (x : Nat) => (AV.arr (5 : Nat) (1 : Nat) (fun (y1 : Nat) => (AV.v (Value.int IntKind.u64 (((0 : Nat) : Nat) : Int))))))))), ((13 : Nat), (Blk.c (AV.arr (5 : Nat) (5 : Nat) (fun (j : Nat) => (if (j = y) then (AV.arr (5 : Nat) (1 : Nat) (fun (j1 : Nat) => (if (j1 = (((2 * i) + (3 * y)) % 5)) then (AV.v (Value.int IntKind.u64 (((g (i + ((5 : Nat) * y))) : Nat) : Int))) else (AV.v (Value.int IntKind.u64 (((W.bR g (((5 : Nat) * i) + y) (y + ((5 : Nat) * j1))) : Nat) : Int)))))) else (AV.arr (5 : Nat) (1 : Nat) (fun (y1 : Nat) => (AV.v (Value.int IntKind.u64 (((W.bR g (((5 : Nat) * i) + y) (j + ((5 : Nat) * y1))) : Nat) : Int))))))))))] [(2 : Nat), (4 : Nat), (13 : Nat)])))))))))))) ∧
 ((decide (((y : Nat) : Int) < (5 : Int))) = false → 
 ((I64 (((i + 1) : Nat) : Int)) ∧
  (Φ Ex.normal (St.mk [((1 : Nat), (AV.v (Value.int IntKind.u64 ((k : Nat) : Int)))), ((2 : Nat), (AV.ptr (2 : Nat) [])), ((4 : Nat), (AV.ptr (4 : Nat) [])), ((13 : Nat), (AV.ptr (13 : Nat) [])), ((14 : Nat), (AV.v (Value.int IntKind.i64 (((i + 1) : Nat) : Int)))), ((15 : Nat), (AV.v (Value.int IntKind.i64 ((y : Nat) : Int)))), ((114 : Nat), (AV.v (Value.bool false)))] [((2 : Nat), (Blk.c (AV.arr (5 : Nat) (5 : Nat) (fun (x : Nat) => (AV.arr (5 : Nat) (1 : Nat) (fun (y1 : Nat) => (AV.v (Value.int IntKind.u64 (((g (x + ((5 : Nat) * y1))) : Nat) : Int))))))))), ((4 : Nat), (Blk.c (AV.arr (5 : Nat) (5 : Nat) (fun (x : Nat) => (AV.arr (5 : Nat) (1 : Nat) (fun (y1 : Nat) => (AV.v (Value.int IntKind.u64 (((0 : Nat) : Nat) : Int))))))))), ((13 : Nat), (Blk.c (AV.arr (5 : Nat) (5 : Nat) (fun (x : Nat) => (AV.arr (5 : Nat) (1 : Nat) (fun (y1 : Nat) => (AV.v (Value.int IntKind.u64 (((W.bR g (((5 : Nat) * i) + y) (x + ((5 : Nat) * y1))) : Nat) : Int)))))))))] [(2 : Nat), (4 : Nat), (13 : Nat)]))))) := by kernel_rfl
noncomputable abbrev bd_rround_6 : Code := bodyAt (b_rround) [1, 1, 1, 1, 1, 1, 1, 1, 1, 0, 1, 0]
theorem ok_rround_6 : codeOK bd_rround_6 = true := by kernel_rfl
noncomputable abbrev rest_rround_6 (K : Nat) (Φ : Ex → St → Prop) : Ex → St → Prop := fun e S' => Holds C P 173 [] K Φ (after C w_rround (b_rround) [1, 1, 1, 1, 1, 1, 1, 1, 1, 0, 1, 0] [] lf e S')
theorem rround_L6 (g b : Nat → Nat) (k i : Nat) (K : Nat) (Φ : Ex → St → Prop) :
  (Holds C P 173 [] K (RoundQ C 173 [] K (I_q6 g b k) (fun i => i ≤ 5) (fun i => 5 - i) ((fun i => 5 - i) (i)) (rest_rround_6 K Φ)) (vc C w_rround bd_rround_6 [] ((I_q6 g b k) (i)) lf)) =
  (((decide (((i : Nat) : Int) < (5 : Int))) = true → 
 (LoopOK W.C W.P (173 : Nat) [] K (bodyAt bd_rround_6 [1, 0, 0, 1, 0]) (St.mk [((1 : Nat), (AV.v (Value.int IntKind.u64 ((k : Nat) : Int)))), ((2 : Nat), (AV.ptr (2 : Nat) [])), ((4 : Nat), (AV.ptr (4 : Nat) [])), ((13 : Nat), (AV.ptr (13 : Nat) [])), ((16 : Nat), (AV.v (Value.int IntKind.i64 ((i : Nat) : Int)))), ((17 : Nat), (AV.v (Value.int IntKind.i64 (0 : Int)))), ((132 : Nat), (AV.v (Value.bool true)))] [((2 : Nat), (Blk.c (AV.arr (5 : Nat) (5 : Nat) (fun (x : Nat) => (AV.arr (5 : Nat) (1 : Nat) (fun (y : Nat) => (AV.v (Value.int IntKind.u64 (((W.part (Sp.chi b) g i (0 : Nat) (x + ((5 : Nat) * y))) : Nat) : Int))))))))), ((4 : Nat), (Blk.c (AV.arr (5 : Nat) (5 : Nat) (fun (x : Nat) => (AV.arr (5 : Nat) (1 : Nat) (fun (y : Nat) => (AV.v (Value.int IntKind.u64 (((0 : Nat) : Nat) : Int))))))))), ((13 : Nat), (Blk.c (AV.arr (5 : Nat) (5 : Nat) (fun (x : Nat) => (AV.arr (5 : Nat) (1 : Nat) (fun (y : Nat) => (AV.v (Value.int IntKind.u64 (((b (x + ((5 : Nat) * y))) : Nat) : Int)))))))))] [(2 : Nat), (4 : Nat), (13 : Nat)]) (fun (e : Ex) (S' : St) => Holds W.C W.P (173 : Nat) [] K (RoundQ C 173 [] K (I_q6 g b k) (fun i => i ≤ 5) (fun i => 5 - i) ((fun i => 5 - i) (i)) (rest_rround_6 K Φ)) (after W.C w_rround bd_rround_6 [1, 0, 0, 1, 0] [] lf e S')))) ∧
 ((decide (((i : Nat) : Int) < (5 : Int))) = false → 
 ((((0 : Int) ≤ (0 : Int)) ∧ ((0 : Int) < (5 : Int))) ∧
  ((((0 : Int) ≤ (0 : Int)) ∧ ((0 : Int) < (5 : Int))) ∧
  ((((0 : Int) ≤ (0 : Int)) ∧ ((0 : Int) < (5 : Int))) ∧
  ((((0 : Int) ≤ (0 : Int)) ∧ ((0 : Int) < (5 : Int))) ∧
  ((((5 : Nat) = (5 : Nat)) ∧ (((5 : Nat) = (5 : Nat)) ∧ (∀ (i1 : Nat), ((i1 < (5 : Nat)) → (shp (AV.arr (5 : Nat) (1 : Nat) (fun (y : Nat) => (AV.v (Value.int IntKind.u64 (((0 : Nat) : Nat) : Int))))) (if (i1 = (0 : Nat)) then (AV.arr (5 : Nat) (1 : Nat) (fun (j : Nat) => (if (j = (0 : Nat)) then (AV.v (Value.int IntKind.u64 (bXor IntKind.u64 (((W.part (Sp.chi b) g i (0 : Nat) (0 : Nat)) : Nat) : Int) ((k : Nat) : Int)))) else (AV.v (Value.int IntKind.u64 (((W.part (Sp.chi b) g i (0 : Nat) ((0 : Nat) + ((5 : Nat) * j))) : Nat) : Int)))))) else (AV.arr (5 : Nat) (1 : Nat) (fun (y : Nat) => (AV.v (Value.int IntKind.u64 (((W.part (Sp.chi b) g i (0 : Nat) (i1 + ((5 : Nat) * y))) : Nat) : Int))))))))))) ∧
  (Φ Ex.ret (St.mk [((1 : Nat), (AV.v (Value.int IntKind.u64 ((k : Nat) : Int)))), ((2 : Nat), (AV.ptr (2 : Nat) [])), ((4 : Nat), (AV.ptr (4 : Nat) [])), ((13 : Nat), (AV.ptr (13 : Nat) [])), ((16 : Nat), (AV.v (Value.int IntKind.i64 ((i : Nat) : Int)))), ((132 : Nat), (AV.v (Value.bool false)))] [((2 : Nat), (Blk.c (AV.arr (5 : Nat) (5 : Nat) (fun (j : Nat) => (if (j = (0 : Nat)) then (AV.arr (5 : Nat) (1 : Nat) (fun (j1 : Nat) => (if (j1 = (0 : Nat)) then (AV.v (Value.int IntKind.u64 (bXor IntKind.u64 (((W.part (Sp.chi b) g i (0 : Nat) (0 : Nat)) : Nat) : Int) ((k : Nat) : Int)))) else (AV.v (Value.int IntKind.u64 (((W.part (Sp.chi b) g i (0 : Nat) ((0 : Nat) + ((5 : Nat) * j1))) : Nat) : Int)))))) else (AV.arr (5 : Nat) (1 : Nat) (fun (y : Nat) => (AV.v (Value.int IntKind.u64 (((W.part (Sp.chi b) g i (0 : Nat) (j + ((5 : Nat) * y))) : Nat) : Int)))))))))), ((4 : Nat), (Blk.c (AV.arr (5 : Nat) (5 : Nat) (fun (j : Nat) => (if (j = (0 : Nat)) then (AV.arr (5 : Nat) (1 : Nat) (fun (j1 : Nat) => (if (j1 = (0 : Nat)) then (AV.v (Value.int IntKind.u64 (bXor IntKind.u64 (((W.part (Sp.chi b) g i (0 : Nat) (0 : Nat)) : Nat) : Int) ((k : Nat) : Int)))) else (AV.v (Value.int IntKind.u64 (((W.part (Sp.chi b) g i (0 : Nat) ((0 : Nat) + ((5 : Nat) * j1))) : Nat) : Int)))))) else (AV.arr (5 : Nat) (1 : Nat) (fun (y : Nat) => (AV.v (Value.int IntKind.u64 (((W.part (Sp.chi b) g i (0 : Nat) (j + ((5 : Nat) * y))) : Nat) : Int)))))))))), ((13 : Nat), (Blk.c (AV.arr (5 : Nat) (5 : Nat) (fun (x : Nat) => (AV.arr (5 : Nat) (1 : Nat) (fun (y : Nat) => (AV.v (Value.int IntKind.u64 (((b (x + ((5 : Nat) * y))) : Nat) : Int)))))))))] [(2 : Nat), (4 : Nat), (13 : Nat)]))))))))) := by kernel_rfl
noncomputable abbrev bd_rround_7 : Code := bodyAt (bd_rround_6) [1, 0, 0, 1, 0]
theorem ok_rround_7 : codeOK bd_rround_7 = true := by kernel_rfl
noncomputable abbrev rest_rround_7 (K : Nat) (Φ : Ex → St → Prop) : Ex → St → Prop := fun e S' => Holds C P 173 [] K Φ (after C w_rround (bd_rround_6) [1, 0, 0, 1, 0] [] lf e S')
theorem rround_L7 (g b : Nat → Nat) (k i y : Nat) (K : Nat) (Φ : Ex → St → Prop) :
  (Holds C P 173 [] K (RoundQ C 173 [] K (I_q7 g b k i) (fun y => y ≤ 5) (fun y => 5 - y) ((fun y => 5 - y) (y)) (rest_rround_7 K Φ)) (vc C w_rround bd_rround_7 [] ((I_q7 g b k i) (y)) lf)) =
  (((decide (((y : Nat) : Int) < (5 : Int))) = true → 
 ((((0 : Int) ≤ ((i : Nat) : Int)) ∧ (((i : Nat) : Int) < (5 : Int))) ∧
  ((((0 : Int) ≤ ((y : Nat) : Int)) ∧ (((y : Nat) : Int) < (5 : Int))) ∧
  ((I64 (((i + 1) : Nat) : Int)) ∧
  (((5 : Int) ≠ (0 : Int)) ∧
  ((((0 : Int) ≤ ((((i + 1) % 5) : Nat) : Int)) ∧ (((((i + 1) % 5) : Nat) : Int) < (5 : Int))) ∧
  ((((0 : Int) ≤ ((y : Nat) : Int)) ∧ (((y : Nat) : Int) < (5 : Int))) ∧
  ((I64 (((i + 2) : Nat) : Int)) ∧
  (((5 : Int) ≠ (0 : Int)) ∧
  ((((0 : Int) ≤ ((((i + 2) % 5) : Nat) : Int)) ∧ (((((i + 2) % 5) : Nat) : Int) < (5 : Int))) ∧
  ((((0 : Int) ≤ ((y : Nat) : Int)) ∧ (((y : Nat) : Int) < (5 : Int))) ∧
  ((((0 : Int) ≤ ((i : Nat) : Int)) ∧ (((i : Nat) : Int) < (5 : Int))) ∧
  ((((0 : Int) ≤ ((y : Nat) : Int)) ∧ (((y : Nat) : Int) < (5 : Int))) ∧
  ((I64 (((y + 1) : Nat) : Int)) ∧
  ((RoundQ C 173 [] K (I_q7 g b k i) (fun y => y ≤ 5) (fun y => 5 - y) ((fun y => 5 - y) (y)) (rest_rround_7 K Φ)) Ex.normal (St.mk [((1 : Nat), (AV.v (Value.int IntKind.u64 ((k : Nat) : Int)))), ((2 : Nat), (AV.ptr (2 : Nat) [])), ((4 : Nat), (AV.ptr (4 : Nat) [])), ((13 : Nat), (AV.ptr (13 : Nat) [])), ((16 : Nat), (AV.v (Value.int IntKind.i64 ((i : Nat) : Int)))), ((17 : Nat), (AV.v (Value.int IntKind.i64 (((y + 1) : Nat) : Int)))), ((136 : Nat), (AV.v (Value.bool true)))] [((2 : Nat), (Blk.c (AV.arr (5 : Nat) (5 : Nat) (fun (j : Nat) => (if (j = i) then (AV.arr (5 : Nat) (1 : Nat) (fun (j1 : Nat) => (if (j1 = y) then (AV.v (Value.int IntKind.u64 (bXor IntKind.u64 (((b (i + ((5 : Nat) * y))) : Nat) : Int) (bAnd IntKind.u64 (bXor IntKind.u64 (18446744073709551615 : Int) (((b (((i + 1) % 5) + ((5 : Nat) * y))) : Nat) : Int)) (((b (((i + 2) % 5) + ((5 : Nat) * y))) : Nat) : Int))))) else (AV.v (Value.int IntKind.u64 (((W.part (Sp.chi b) g i y (i + ((5 : Nat) * j1))) : Nat) : Int)))))) else (AV.arr (5 : Nat) (1 : Nat) (fun (y1 : Nat) => (AV.v (Value.int IntKind.u64 (((W.part (Sp.chi b) g i y (j + ((5 : Nat) * y1))) : Nat) : Int)))))))))), ((4 : Nat), (Blk.c (AV.arr (5 : Nat) (5 : Nat) (fun (x : Nat) => (AV.arr (5 : Nat) (1 : Nat) (fun (y1 : Nat) => (AV.v (Value.int IntKind.u64 (((0 : Nat) : Nat) : Int))))))))), ((13 : Nat), (Blk.c (AV.arr (5 : Nat) (5 : Nat) (fun (x : Nat) => (AV.arr (5 : Nat) (1 : Nat) (fun (y1 : Nat) => (AV.v (Value.int IntKind.u64 (((b (x + ((5 : Nat) * y1))) : Nat) : Int)))))))))] [(2 : Nat), (4 : Nat), (13 : Nat)])))))))))))))))) ∧
 ((decide (((y : Nat) : Int) < (5 : Int))) = false → 
 ((I64 (((i + 1) : Nat) : Int)) ∧
  (Φ Ex.normal (St.mk [((1 : Nat), (AV.v (Value.int IntKind.u64 ((k : Nat) : Int)))), ((2 : Nat), (AV.ptr (2 : Nat) [])), ((4 : Nat), (AV.ptr (4 : Nat) [])), ((13 : Nat), (AV.ptr (13 : Nat) [])), ((16 : Nat), (AV.v (Value.int IntKind.i64 (((i + 1) : Nat) : Int)))), ((17 : Nat), (AV.v (Value.int IntKind.i64 ((y : Nat) : Int)))), ((136 : Nat), (AV.v (Value.bool false)))] [((2 : Nat), (Blk.c (AV.arr (5 : Nat) (5 : Nat) (fun (x : Nat) => (AV.arr (5 : Nat) (1 : Nat) (fun (y1 : Nat) => (AV.v (Value.int IntKind.u64 (((W.part (Sp.chi b) g i y (x + ((5 : Nat) * y1))) : Nat) : Int))))))))), ((4 : Nat), (Blk.c (AV.arr (5 : Nat) (5 : Nat) (fun (x : Nat) => (AV.arr (5 : Nat) (1 : Nat) (fun (y1 : Nat) => (AV.v (Value.int IntKind.u64 (((0 : Nat) : Nat) : Int))))))))), ((13 : Nat), (Blk.c (AV.arr (5 : Nat) (5 : Nat) (fun (x : Nat) => (AV.arr (5 : Nat) (1 : Nat) (fun (y1 : Nat) => (AV.v (Value.int IntKind.u64 (((b (x + ((5 : Nat) * y1))) : Nat) : Int)))))))))] [(2 : Nat), (4 : Nat), (13 : Nat)]))))) := by kernel_rfl

theorem left_fun (n w : Nat) (hw : w < 2 ^ 64) (hn : n ≤ 64) : Fun C P F_left [i64 n, u64 w] [] (u64 (rotl w n)) [] := by
  refine in_left (W := w_left) rfl 0 (by simp) rfl (fun id h => absurd rfl h) ?_
  refine of_eq (left_A n w 0 _) ?_
  rw [show (64 : Int) - ((n : Nat) : Int) = ((64 - n : Nat) : Int) by omega, shl64, shr64 _ _ hw, or64 (Nat.mod_lt _ (by decide)) (by rw [Nat.shiftRight_eq_div_pow]; exact Nat.lt_of_le_of_lt (Nat.div_le_self _ _) hw)]
  exact ⟨(by first | omega | decide | (unfold I64; omega)), (by first | omega | decide | (unfold I64; omega)), (by first | omega | decide | (unfold I64; omega)), post_tmp rfl (sm_same rfl)⟩

theorem rwords_fun : Fun C P F_rwords [] [] wordsR [] := by
  refine in_rwords (W := w_rwords) rfl 0 (by simp) rfl (fun id h => absurd rfl h) ?_
  refine of_eq (rwords_A 0 _) ⟨⟨rfl, rfl, fun i hi => ?_⟩, post_cell rfl rfl (sm_arr fun i hi => ?_) rfl⟩
  · have h : i = 0 ∨ i = 1 ∨ i = 2 ∨ i = 3 ∨ i = 4 ∨ i = 5 ∨ i = 6 ∨ i = 7 ∨ i = 8 ∨ i = 9 ∨ i = 10 ∨ i = 11 ∨ i = 12 ∨ i = 13 ∨ i = 14 ∨ i = 15 ∨ i = 16 ∨ i = 17 ∨ i = 18 ∨ i = 19 ∨ i = 20 ∨ i = 21 ∨ i = 22 ∨ i = 23 := by omega
    rcases h with rfl | rfl | rfl | rfl | rfl | rfl | rfl | rfl | rfl | rfl | rfl | rfl | rfl | rfl | rfl | rfl | rfl | rfl | rfl | rfl | rfl | rfl | rfl | rfl <;> exact ⟨rfl, rfl⟩
  · have h : i = 0 ∨ i = 1 ∨ i = 2 ∨ i = 3 ∨ i = 4 ∨ i = 5 ∨ i = 6 ∨ i = 7 ∨ i = 8 ∨ i = 9 ∨ i = 10 ∨ i = 11 ∨ i = 12 ∨ i = 13 ∨ i = 14 ∨ i = 15 ∨ i = 16 ∨ i = 17 ∨ i = 18 ∨ i = 19 ∨ i = 20 ∨ i = 21 ∨ i = 22 ∨ i = 23 := by omega
    rcases h with rfl | rfl | rfl | rfl | rfl | rfl | rfl | rfl | rfl | rfl | rfl | rfl | rfl | rfl | rfl | rfl | rfl | rfl | rfl | rfl | rfl | rfl | rfl | rfl <;> rfl

theorem el_arr {F G : Nat → AV} (h : ∀ y, y < 5 → F y = G y) : AV.arr 5 1 F = .arr 5 1 G ∨ sim (fun _ => none) (.arr 5 1 F) (.arr 5 1 G) := .inr ⟨rfl, rfl, fun y hy => .inl (h y hy)⟩
theorem sm_ref {m : Nat → Option Nat} {g h : Nat → Nat} (e : ∀ x y, x < 5 → y < 5 → g (x + 5 * y) = h (x + 5 * y)) : simR m (refArr g) (refArr h) :=
  .inr ⟨rfl, rfl, fun x hx => el_arr fun y hy => by rw [e x y hx hy]⟩
theorem sm_upd2 {m : Nat → Option Nat} {g h : Nat → Nat} {x0 y0 : Nat} {v : AV} (hv : v = u64 (h (x0 + 5 * y0))) (e : ∀ x y, x < 5 → y < 5 → ¬ (x = x0 ∧ y = y0) → g (x + 5 * y) = h (x + 5 * y)) :
    simR m (.arr 5 5 (fun j => if j = x0 then .arr 5 1 (fun j1 => if j1 = y0 then v else u64 (g (x0 + 5 * j1))) else .arr 5 1 (fun y => u64 (g (j + 5 * y))))) (refArr h) := by
  refine .inr ⟨rfl, rfl, fun x hx => ?_⟩
  dsimp only
  by_cases a : x = x0
  · rw [if_pos a]
    refine el_arr fun y hy => ?_
    by_cases b : y = y0
    · rw [if_pos b, hv, a, b]
    · rw [if_neg b, ← a, e x y hx hy fun h => b h.2]
  · rw [if_neg a]
    exact el_arr fun y hy => by rw [e x y hx hy fun h => a h.1]
theorem pmod {x y : Nat} (h : x < 5) : (x + 5 * y) % 5 = x := by omega
theorem pdiv {x y : Nat} (h : x < 5) : (x + 5 * y) / 5 = y := by omega
theorem part_at {u v : Nat → Nat} {i y x z : Nat} (hx : x < 5) : part u v i y (x + 5 * z) = if x < i ∨ (x = i ∧ z < y) then u (x + 5 * z) else v (x + 5 * z) := by
  unfold part
  rw [pmod hx, pdiv hx]
theorem part_here {u v : Nat → Nat} {i y : Nat} (hi : i < 5) : part u v i y (i + 5 * y) = v (i + 5 * y) := by
  rw [part_at hi, if_neg (by omega)]
theorem part_next {u v : Nat → Nat} {i y x z : Nat} (hx : x < 5) (h : ¬ (x = i ∧ z = y)) : part u v i y (x + 5 * z) = part u v i (y + 1) (x + 5 * z) := by
  rw [part_at hx, part_at hx]
  by_cases a : x < i ∨ (x = i ∧ z < y)
  · rw [if_pos a, if_pos (by omega)]
  · rw [if_neg a, if_neg (by omega)]
theorem part_row {u v : Nat → Nat} {i x z : Nat} (hx : x < 5) (hz : z < 5) : part u v i 5 (x + 5 * z) = part u v (i + 1) 0 (x + 5 * z) := by
  rw [part_at hx, part_at hx]
  by_cases a : x < i ∨ (x = i ∧ z < 5)
  · rw [if_pos a, if_pos (by omega)]
  · rw [if_neg a, if_neg (by omega)]
theorem part_new {u v : Nat → Nat} {i y : Nat} (hi : i < 5) : part u v i (y + 1) (i + 5 * y) = u (i + 5 * y) := by
  rw [part_at hi, if_pos (by omega)]
theorem part_all {u v : Nat → Nat} {x z : Nat} (hx : x < 5) : part u v 5 0 (x + 5 * z) = u (x + 5 * z) := by
  rw [part_at hx, if_pos (by omega)]
theorem part_none {u v : Nat → Nat} {x z : Nat} (hx : x < 5) : part u v 0 0 (x + 5 * z) = v (x + 5 * z) := by
  rw [part_at hx, if_neg (by omega)]
theorem colN_eq (f : Nat → Nat) {x : Nat} (hx : x < 5) : colN f x = cN f 25 x := by
  match x, hx with
  | 0, _ => simp [cN, colN]
  | 1, _ => simp [cN, colN]
  | 2, _ => simp [cN, colN]
  | 3, _ => simp [cN, colN]
  | 4, _ => simp [cN, colN]
theorem theta_at (f : Nat → Nat) {i y : Nat} (hi : i < 5) : theta f (i + 5 * y) = f (i + 5 * y) ^^^ dlN f i := by
  unfold theta dlN
  rw [pmod hi]
theorem chi_at (b : Nat → Nat) {i y : Nat} (hi : i < 5) : chi b (i + 5 * y) = b (i + 5 * y) ^^^ (((2 ^ 64 - 1) ^^^ b ((i + 1) % 5 + 5 * y)) &&& b ((i + 2) % 5 + 5 * y)) := by
  unfold chi
  rw [pdiv hi, show y * 5 + (i + 5 * y + 1) % 5 = (i + 1) % 5 + 5 * y by omega, show y * 5 + (i + 5 * y + 2) % 5 = (i + 2) % 5 + 5 * y by omega]
theorem rotl_zero {x : Nat} (h : x < 2 ^ 64) : rotl x 0 = x := by
  unfold rotl
  rw [Nat.shiftLeft_zero, Nat.mod_eq_of_lt h, Nat.sub_zero, Nat.shiftRight_eq_div_pow, Nat.div_eq_of_lt h, Nat.or_zero]
theorem rho_end {th : Nat → Nat} (h0 : th 0 < 2 ^ 64) {p : Nat} (hp : p < 25) : rhoN th 24 p = rotl (th p) (turnsN p) := by
  have h : p = 0 ∨ p = 1 ∨ p = 2 ∨ p = 3 ∨ p = 4 ∨ p = 5 ∨ p = 6 ∨ p = 7 ∨ p = 8 ∨ p = 9 ∨ p = 10 ∨ p = 11 ∨ p = 12 ∨ p = 13 ∨ p = 14 ∨ p = 15 ∨ p = 16 ∨ p = 17 ∨ p = 18 ∨ p = 19 ∨ p = 20 ∨ p = 21 ∨ p = 22 ∨ p = 23 ∨ p = 24 := by omega
  rcases h with rfl | rfl | rfl | rfl | rfl | rfl | rfl | rfl | rfl | rfl | rfl | rfl | rfl | rfl | rfl | rfl | rfl | rfl | rfl | rfl | rfl | rfl | rfl | rfl | rfl
  · exact (rotl_zero h0).symm
  all_goals rfl
theorem bR_end {g f : Nat → Nat} (hg : ∀ p, p < 25 → g p = rotl (theta f p) (turnsN p)) {p : Nat} (hp : p < 25) : bR g 25 p = bN f 25 p := by
  have h : p = 0 ∨ p = 1 ∨ p = 2 ∨ p = 3 ∨ p = 4 ∨ p = 5 ∨ p = 6 ∨ p = 7 ∨ p = 8 ∨ p = 9 ∨ p = 10 ∨ p = 11 ∨ p = 12 ∨ p = 13 ∨ p = 14 ∨ p = 15 ∨ p = 16 ∨ p = 17 ∨ p = 18 ∨ p = 19 ∨ p = 20 ∨ p = 21 ∨ p = 22 ∨ p = 23 ∨ p = 24 := by omega
  rcases h with rfl | rfl | rfl | rfl | rfl | rfl | rfl | rfl | rfl | rfl | rfl | rfl | rfl | rfl | rfl | rfl | rfl | rfl | rfl | rfl | rfl | rfl | rfl | rfl | rfl
  · exact hg 0 (by decide)
  · exact hg 6 (by decide)
  · exact hg 12 (by decide)
  · exact hg 18 (by decide)
  · exact hg 24 (by decide)
  · exact hg 3 (by decide)
  · exact hg 9 (by decide)
  · exact hg 10 (by decide)
  · exact hg 16 (by decide)
  · exact hg 22 (by decide)
  · exact hg 1 (by decide)
  · exact hg 7 (by decide)
  · exact hg 13 (by decide)
  · exact hg 19 (by decide)
  · exact hg 20 (by decide)
  · exact hg 4 (by decide)
  · exact hg 5 (by decide)
  · exact hg 11 (by decide)
  · exact hg 17 (by decide)
  · exact hg 23 (by decide)
  · exact hg 2 (by decide)
  · exact hg 8 (by decide)
  · exact hg 14 (by decide)
  · exact hg 15 (by decide)
  · exact hg 21 (by decide)
theorem rhoN_lt {th : Nat → Nat} (h : ∀ i, i < 25 → th i < 2 ^ 64) : ∀ t i, i < 25 → rhoN th t i < 2 ^ 64
  | 0, i, hi => h i hi
  | t + 1, i, hi => by
    unfold rhoN
    by_cases e : i = (pos t).1 + 5 * (pos t).2
    · rw [if_pos e]; exact rotl_lt (rhoN_lt h t i hi)
    · rw [if_neg e]; exact rhoN_lt h t i hi
theorem flat_ref (f : Nat → Nat) (p : Nat) : f (p % 5 + 5 * (p / 5)) = f p := by rw [Nat.mod_add_div]

theorem rround_fun (f : Nat → Nat) (k : Nat) (hf : ∀ i, i < 25 → f i < 2 ^ 64) (hk : k < 2 ^ 64) : Fun C P F_rround [refArr f, u64 k] [] (refArr (roundN f k)) [] := by
  have hc : ∀ j, cN f 25 j < 2 ^ 64 := cN_lt hf 25 (Nat.le_refl _)
  have hd : ∀ i, dlN f i < 2 ^ 64 := fun i => Nat.xor_lt_two_pow (hc _) (rotl_lt (hc _))
  have hth : ∀ i, i < 25 → theta f i < 2 ^ 64 := fun i hi => theta_lt hf hi
  have hb : ∀ j, bN f 25 j < 2 ^ 64 := bN_lt hf 25 (Nat.le_refl _)
  refine in_rround (W := w_rround) rfl 0 (by simp) rfl (fun id h => absurd rfl h) ?_
  refine of_eq (rround_A f k 0 _) ⟨⟨rfl, rfl, fun _ _ => ⟨rfl, rfl⟩⟩, ?_⟩
  refine loop_inv (W := w_rround) ctx mixed ok_rround_0 (I_q0 f k) (fun i => i ≤ 5) (fun i => 5 - i) 0 (by decide) ?_ fun i hi => ?_
  · exact ent_of [(2, 2), (4, 4), (5, 5)] rfl (tm_cons rfl (sm_same rfl) (tm_cons rfl (sm_ptr rfl) (tm_cons rfl (sm_ptr rfl) (tm_cons rfl (sm_ptr rfl) (tm_cons rfl (sm_same rfl) tm_nil))))) (hp_cons rfl rfl (sm_same rfl) (hp_cons rfl rfl (sm_same rfl) (hp_cons rfl rfl (sm_arr fun j _ => rfl) hp_nil)))
  refine of_eq (rround_L0 f k i 0 _) ⟨fun h => ?_, fun h => ?_⟩
  · simp only [decide_eq_true_eq] at h
    have b1 : ∀ q, q ≤ 20 → f (i + q) < 2 ^ 64 := fun q hq => hf _ (by omega)
    have b0 : f i < 2 ^ 64 := hf _ (by omega)
    rw [xor64 b0 (b1 5 (by decide)), xor64 (Nat.xor_lt_two_pow b0 (b1 5 (by decide))) (b1 10 (by decide)), xor64 (Nat.xor_lt_two_pow (Nat.xor_lt_two_pow b0 (b1 5 (by decide))) (b1 10 (by decide))) (b1 15 (by decide)),
      xor64 (Nat.xor_lt_two_pow (Nat.xor_lt_two_pow (Nat.xor_lt_two_pow b0 (b1 5 (by decide))) (b1 10 (by decide))) (b1 15 (by decide))) (b1 20 (by decide))]
    refine ⟨(by first | omega | decide | (unfold I64; omega)), (by first | omega | decide | (unfold I64; omega)), (by first | omega | decide | (unfold I64; omega)), (by first | omega | decide | (unfold I64; omega)), (by first | omega | decide | (unfold I64; omega)), (by first | omega | decide | (unfold I64; omega)), (by first | omega | decide | (unfold I64; omega)), (by first | omega | decide | (unfold I64; omega)), (by first | omega | decide | (unfold I64; omega)), (by first | omega | decide | (unfold I64; omega)), (by first | omega | decide | (unfold I64; omega)), (by first | omega | decide | (unfold I64; omega)), round_end (i + 1) (by omega) (ent_of [(2, 2), (4, 4), (5, 5)] rfl (tm_cons rfl (sm_same rfl) (tm_cons rfl (sm_ptr rfl) (tm_cons rfl (sm_ptr rfl) (tm_cons rfl (sm_ptr rfl) (tm_cons rfl (sm_same rfl) tm_nil))))) (hp_cons rfl rfl (sm_same rfl) (hp_cons rfl rfl (sm_same rfl) (hp_cons rfl rfl (sm_arr fun j _ => ?_) hp_nil)))) (by dsimp only; omega)⟩
    show _ = u64 (if j < i + 1 then colN f j else 0)
    by_cases e : j = i
    · rw [if_pos e, if_pos (by omega), e]; rfl
    · rw [if_neg e]
      by_cases e2 : j < i
      · rw [if_pos e2, if_pos (by omega)]
      · rw [if_neg e2, if_neg (by omega)]
  simp only [decide_eq_false_iff_not] at h
  obtain rfl : i = 5 := by omega
  clear h
  refine loop_inv (W := w_rround) ctx mixed ok_rround_1 (I_q1 f k) (fun i => i ≤ 5) (fun i => 5 - i) 0 (by decide) ?_ fun i hi => ?_
  · refine ent_of [(2, 2), (4, 4), (5, 5)] rfl (tm_cons rfl (sm_same rfl) (tm_cons rfl (sm_ptr rfl) (tm_cons rfl (sm_ptr rfl) (tm_cons rfl (sm_ptr rfl) (tm_cons rfl (sm_same rfl) tm_nil))))) (hp_cons rfl rfl (sm_ref fun x y hx _ => (part_none hx).symm) (hp_cons rfl rfl (sm_same rfl) (hp_cons rfl rfl (sm_arr fun j hj => ?_) hp_nil)))
    rw [if_pos hj, colN_eq f hj]
  refine of_eq (rround_L1 f k i 0 _) ⟨fun h => ?_, fun h => ?_⟩
  · simp only [decide_eq_true_eq] at h
    rw [xor64 (hc _) (rotl_lt (hc _))]
    refine ⟨(by first | omega | decide | (unfold I64; omega)), (by first | omega | decide | (unfold I64; omega)), (by first | omega | decide | (unfold I64; omega)), (by first | omega | decide | (unfold I64; omega)), (by first | omega | decide | (unfold I64; omega)), (by first | omega | decide | (unfold I64; omega)), left_fun 1 _ (hc _) (by decide), trivial, ?_⟩
    refine loop_inv (W := w_rround) ctx mixed ok_rround_2 (I_q2 f k i) (fun y => y ≤ 5) (fun y => 5 - y) 0 (by decide) ?_ fun y hy => ?_
    · exact ent_of [(2, 2), (4, 4), (5, 5)] rfl (tm_cons rfl (sm_same rfl) (tm_cons rfl (sm_ptr rfl) (tm_cons rfl (sm_ptr rfl) (tm_cons rfl (sm_ptr rfl) (tm_cons rfl (sm_same rfl) (tm_cons rfl (sm_same rfl) (tm_cons rfl (sm_same rfl) tm_nil))))))) (hp_cons rfl rfl (sm_same rfl) (hp_cons rfl rfl (sm_same rfl) (hp_cons rfl rfl (sm_same rfl) hp_nil)))
    refine of_eq (rround_L2 f k i y 0 _) ⟨fun h2 => ?_, fun h2 => ?_⟩
    · simp only [decide_eq_true_eq] at h2
      rw [part_here (by omega), xor64 (hf _ (by omega)) (hd i)]
      refine ⟨(by first | omega | decide | (unfold I64; omega)), (by first | omega | decide | (unfold I64; omega)), (by first | omega | decide | (unfold I64; omega)), (by first | omega | decide | (unfold I64; omega)), (by first | omega | decide | (unfold I64; omega)), round_end (y + 1) (by omega) (ent_of [(2, 2), (4, 4), (5, 5)] rfl (tm_cons rfl (sm_same rfl) (tm_cons rfl (sm_ptr rfl) (tm_cons rfl (sm_ptr rfl) (tm_cons rfl (sm_ptr rfl) (tm_cons rfl (sm_same rfl) (tm_cons rfl (sm_same rfl) (tm_cons rfl (sm_same rfl) tm_nil))))))) (hp_cons rfl rfl (sm_upd2 (by rw [part_new (by omega), theta_at f (by omega)]) fun x z hx _ hne => part_next hx hne) (hp_cons rfl rfl (sm_same rfl) (hp_cons rfl rfl (sm_same rfl) hp_nil)))) (by dsimp only; omega)⟩
    · simp only [decide_eq_false_iff_not] at h2
      obtain rfl : y = 5 := by omega
      exact ⟨(by first | omega | decide | (unfold I64; omega)), round_end (i + 1) (by omega) (ent_of [(2, 2), (4, 4), (5, 5)] rfl (tm_cons rfl (sm_same rfl) (tm_cons rfl (sm_ptr rfl) (tm_cons rfl (sm_ptr rfl) (tm_cons rfl (sm_ptr rfl) (tm_cons rfl (sm_same rfl) tm_nil))))) (hp_cons rfl rfl (sm_ref fun x z hx hz => part_row hx hz) (hp_cons rfl rfl (sm_same rfl) (hp_cons rfl rfl (sm_same rfl) hp_nil)))) (by dsimp only; omega)⟩
  simp only [decide_eq_false_iff_not] at h
  obtain rfl : i = 5 := by omega
  clear h
  refine loop_inv (W := w_rround) ctx mixed ok_rround_3 (I_q3 f k) (fun i => i ≤ 24) (fun i => 24 - i) 0 (by decide) ?_ fun i hi => ?_
  · exact ent_of [(2, 2), (4, 4)] rfl (tm_cons rfl (sm_same rfl) (tm_cons rfl (sm_ptr rfl) (tm_cons rfl (sm_ptr rfl) (tm_cons rfl (sm_same rfl) (tm_cons rfl (sm_same rfl) (tm_cons rfl (sm_same rfl) tm_nil)))))) (hp_cons rfl rfl (sm_ref fun x z hx _ => part_all hx) (hp_cons rfl rfl (sm_same rfl) hp_nil))
  refine of_eq (rround_L3 f k i 0 _) ⟨fun h => ?_, fun h => ?_⟩
  · simp only [decide_eq_true_eq] at h
    obtain ⟨p1, p2⟩ := pos_lt i
    have hm : (i + 1) * (i + 2) ≤ 24 * 25 := Nat.mul_le_mul (by omega) (by omega)
    refine ⟨(by first | omega | decide | (unfold I64; omega)), (by first | omega | decide | (unfold I64; omega)), (by unfold I64; omega), (by first | omega | decide | (unfold I64; omega)), (by unfold I64; omega), (by first | omega | decide | (unfold I64; omega)), (by first | omega | decide | (unfold I64; omega)), (by first | omega | decide | (unfold I64; omega)), left_fun _ _ (rhoN_lt hth i _ (by omega)) (by omega), trivial, (by first | omega | decide | (unfold I64; omega)), (by first | omega | decide | (unfold I64; omega)), (by first | omega | decide | (unfold I64; omega)), (by first | omega | decide | (unfold I64; omega)), (by first | omega | decide | (unfold I64; omega)), (by first | omega | decide | (unfold I64; omega)), (by first | omega | decide | (unfold I64; omega)), round_end (i + 1) (by omega) (ent_of [(2, 2), (4, 4)] rfl (tm_cons rfl (sm_same rfl) (tm_cons rfl (sm_ptr rfl) (tm_cons rfl (sm_ptr rfl) (tm_cons rfl (sm_same rfl) (tm_cons rfl (sm_same rfl) (tm_cons rfl (sm_same rfl) tm_nil)))))) (hp_cons rfl rfl (sm_upd2 ?_ fun x z hx _ hne => ?_) (hp_cons rfl rfl (sm_same rfl) hp_nil))) (by dsimp only; omega)⟩
    · exact (congrArg (fun z : Nat => u64 z) (if_pos rfl)).symm
    · conv => rhs; unfold rhoN
      rw [if_neg (by omega)]
  simp only [decide_eq_false_iff_not] at h
  obtain rfl : i = 24 := by omega
  clear h
  refine ⟨⟨rfl, rfl, fun _ _ => ⟨rfl, rfl, fun _ _ => ⟨rfl, rfl⟩⟩⟩, ?_⟩
  refine loop_inv (W := w_rround) ctx mixed ok_rround_4 (I_q4 (rhoN (theta f) 24) k) (fun i => i ≤ 5) (fun i => 5 - i) 0 (by decide) ?_ fun i hi => ?_
  · exact ent_of [(2, 2), (4, 4), (13, 13)] rfl (tm_cons rfl (sm_same rfl) (tm_cons rfl (sm_ptr rfl) (tm_cons rfl (sm_ptr rfl) (tm_cons rfl (sm_ptr rfl) (tm_cons rfl (sm_same rfl) tm_nil))))) (hp_cons rfl rfl (sm_same rfl) (hp_cons rfl rfl (sm_same rfl) (hp_cons rfl rfl (sm_same rfl) hp_nil)))
  refine of_eq (rround_L4 (rhoN (theta f) 24) k i 0 _) ⟨fun h => ?_, fun h => ?_⟩
  · simp only [decide_eq_true_eq] at h
    refine loop_inv (W := w_rround) ctx mixed ok_rround_5 (I_q5 (rhoN (theta f) 24) k i) (fun y => y ≤ 5) (fun y => 5 - y) 0 (by decide) ?_ fun y hy => ?_
    · exact ent_of [(2, 2), (4, 4), (13, 13)] rfl (tm_cons rfl (sm_same rfl) (tm_cons rfl (sm_ptr rfl) (tm_cons rfl (sm_ptr rfl) (tm_cons rfl (sm_ptr rfl) (tm_cons rfl (sm_same rfl) (tm_cons rfl (sm_same rfl) tm_nil)))))) (hp_cons rfl rfl (sm_same rfl) (hp_cons rfl rfl (sm_same rfl) (hp_cons rfl rfl (sm_same rfl) hp_nil)))
    refine of_eq (rround_L5 (rhoN (theta f) 24) k i y 0 _) ⟨fun h2 => ?_, fun h2 => ?_⟩
    · simp only [decide_eq_true_eq] at h2
      refine ⟨(by first | omega | decide | (unfold I64; omega)), (by first | omega | decide | (unfold I64; omega)), (by first | omega | decide | (unfold I64; omega)), (by first | omega | decide | (unfold I64; omega)), (by first | omega | decide | (unfold I64; omega)), (by first | omega | decide | (unfold I64; omega)), (by first | omega | decide | (unfold I64; omega)), (by first | omega | decide | (unfold I64; omega)), (by first | omega | decide | (unfold I64; omega)), round_end (y + 1) (by omega) (ent_of [(2, 2), (4, 4), (13, 13)] rfl (tm_cons rfl (sm_same rfl) (tm_cons rfl (sm_ptr rfl) (tm_cons rfl (sm_ptr rfl) (tm_cons rfl (sm_ptr rfl) (tm_cons rfl (sm_same rfl) (tm_cons rfl (sm_same rfl) tm_nil)))))) (hp_cons rfl rfl (sm_same rfl) (hp_cons rfl rfl (sm_same rfl) (hp_cons rfl rfl (sm_upd2 ?_ fun x z hx _ hne => ?_) hp_nil)))) (by dsimp only; omega)⟩
      · show _ = u64 (bR _ (5 * i + y + 1) _)
        unfold bR
        rw [show (5 * i + y) % 5 = y by omega, show (5 * i + y) / 5 = i by omega, if_pos rfl]
      · show _ = bR _ (5 * i + y + 1) _
        conv => rhs; unfold bR
        rw [show (5 * i + y) % 5 = y by omega, show (5 * i + y) / 5 = i by omega, if_neg (by omega)]
    · simp only [decide_eq_false_iff_not] at h2
      obtain rfl : y = 5 := by omega
      exact ⟨(by first | omega | decide | (unfold I64; omega)), round_end (i + 1) (by omega) (ent_of [(2, 2), (4, 4), (13, 13)] rfl (tm_cons rfl (sm_same rfl) (tm_cons rfl (sm_ptr rfl) (tm_cons rfl (sm_ptr rfl) (tm_cons rfl (sm_ptr rfl) (tm_cons rfl (sm_same rfl) tm_nil))))) (hp_cons rfl rfl (sm_same rfl) (hp_cons rfl rfl (sm_same rfl) (hp_cons rfl rfl (sm_same rfl) hp_nil)))) (by dsimp only; omega)⟩
  simp only [decide_eq_false_iff_not] at h
  obtain rfl : i = 5 := by omega
  clear h
  have hfin : ∀ x z, x < 5 → z < 5 → bR (rhoN (theta f) 24) (5 * 5) (x + 5 * z) = bN f 25 (x + 5 * z) := fun x z hx hz => bR_end (fun p hp => rho_end (hth 0 (by decide)) hp) (by omega)
  refine loop_inv (W := w_rround) ctx mixed ok_rround_6 (I_q6 (rhoN (theta f) 24) (bN f 25) k) (fun i => i ≤ 5) (fun i => 5 - i) 0 (by decide) ?_ fun i hi => ?_
  · exact ent_of [(2, 2), (4, 4), (13, 13)] rfl (tm_cons rfl (sm_same rfl) (tm_cons rfl (sm_ptr rfl) (tm_cons rfl (sm_ptr rfl) (tm_cons rfl (sm_ptr rfl) (tm_cons rfl (sm_same rfl) tm_nil))))) (hp_cons rfl rfl (sm_ref fun x y hx _ => (part_none hx).symm) (hp_cons rfl rfl (sm_same rfl) (hp_cons rfl rfl (sm_ref hfin) hp_nil)))
  refine of_eq (rround_L6 (rhoN (theta f) 24) (bN f 25) k i 0 _) ⟨fun h => ?_, fun h => ?_⟩
  · simp only [decide_eq_true_eq] at h
    refine loop_inv (W := w_rround) ctx mixed ok_rround_7 (I_q7 (rhoN (theta f) 24) (bN f 25) k i) (fun y => y ≤ 5) (fun y => 5 - y) 0 (by decide) ?_ fun y hy => ?_
    · exact ent_of [(2, 2), (4, 4), (13, 13)] rfl (tm_cons rfl (sm_same rfl) (tm_cons rfl (sm_ptr rfl) (tm_cons rfl (sm_ptr rfl) (tm_cons rfl (sm_ptr rfl) (tm_cons rfl (sm_same rfl) (tm_cons rfl (sm_same rfl) tm_nil)))))) (hp_cons rfl rfl (sm_same rfl) (hp_cons rfl rfl (sm_same rfl) (hp_cons rfl rfl (sm_same rfl) hp_nil)))
    refine of_eq (rround_L7 (rhoN (theta f) 24) (bN f 25) k i y 0 _) ⟨fun h2 => ?_, fun h2 => ?_⟩
    · simp only [decide_eq_true_eq] at h2
      rw [ones _ (hb _), and64 (Nat.xor_lt_two_pow (by decide) (hb _)) (hb _), xor64 (hb _) (Nat.and_lt_two_pow _ (hb _))]
      refine ⟨(by first | omega | decide | (unfold I64; omega)), (by first | omega | decide | (unfold I64; omega)), (by first | omega | decide | (unfold I64; omega)), (by first | omega | decide | (unfold I64; omega)), (by first | omega | decide | (unfold I64; omega)), (by first | omega | decide | (unfold I64; omega)), (by first | omega | decide | (unfold I64; omega)), (by first | omega | decide | (unfold I64; omega)), (by first | omega | decide | (unfold I64; omega)), (by first | omega | decide | (unfold I64; omega)), (by first | omega | decide | (unfold I64; omega)), (by first | omega | decide | (unfold I64; omega)), (by first | omega | decide | (unfold I64; omega)), round_end (y + 1) (by omega) (ent_of [(2, 2), (4, 4), (13, 13)] rfl (tm_cons rfl (sm_same rfl) (tm_cons rfl (sm_ptr rfl) (tm_cons rfl (sm_ptr rfl) (tm_cons rfl (sm_ptr rfl) (tm_cons rfl (sm_same rfl) (tm_cons rfl (sm_same rfl) tm_nil)))))) (hp_cons rfl rfl (sm_upd2 (by rw [part_new (by omega), chi_at _ (by omega)]) fun x z hx _ hne => part_next hx hne) (hp_cons rfl rfl (sm_same rfl) (hp_cons rfl rfl (sm_same rfl) hp_nil)))) (by dsimp only; omega)⟩
    · simp only [decide_eq_false_iff_not] at h2
      obtain rfl : y = 5 := by omega
      exact ⟨(by first | omega | decide | (unfold I64; omega)), round_end (i + 1) (by omega) (ent_of [(2, 2), (4, 4), (13, 13)] rfl (tm_cons rfl (sm_same rfl) (tm_cons rfl (sm_ptr rfl) (tm_cons rfl (sm_ptr rfl) (tm_cons rfl (sm_ptr rfl) (tm_cons rfl (sm_same rfl) tm_nil))))) (hp_cons rfl rfl (sm_ref fun x z hx hz => part_row hx hz) (hp_cons rfl rfl (sm_same rfl) (hp_cons rfl rfl (sm_same rfl) hp_nil)))) (by dsimp only; omega)⟩
  simp only [decide_eq_false_iff_not] at h
  obtain rfl : i = 5 := by omega
  have hp0 : part (chi (bN f 25)) (rhoN (theta f) 24) 5 0 0 = chi (bN f 25) 0 := part_all (x := 0) (z := 0) (by decide)
  rw [hp0, xor64 (chi_lt hb 0) hk]
  refine ⟨(by first | omega | decide | (unfold I64; omega)), (by first | omega | decide | (unfold I64; omega)), (by first | omega | decide | (unfold I64; omega)), (by first | omega | decide | (unfold I64; omega)), ⟨rfl, rfl, fun i hi => ?_⟩, post_cell rfl rfl (sm_upd2 ?_ fun x z hx _ hne => ?_) rfl⟩
  · by_cases e : i = 0
    · rw [if_pos e]
      refine ⟨rfl, rfl, fun j _ => ?_⟩
      dsimp only
      by_cases e2 : j = 0
      · rw [if_pos e2]; exact ⟨rfl, rfl⟩
      · rw [if_neg e2]; exact ⟨rfl, rfl⟩
    · rw [if_neg e]; exact ⟨rfl, rfl, fun _ _ => ⟨rfl, rfl⟩⟩
  · rfl
  · rw [part_all hx]
    unfold roundN
    rw [if_neg (by omega)]
end Go.Bu.W

