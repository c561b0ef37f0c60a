/- The hash of parts is the hash of the tag and, for each part, its length and its bytes. -/
import Derived.Test.YtfhdnaonihhjjaaDoorK15
import Derived.Test.YtfhdnaonihhjjaaDoorK9
namespace Go.Bu.W
open Sp
def w_lp : Way := wayL [0, 1, 4, 5, 6, 7, 11, 18, 26] 52 []
def I_p0 (tag : Nat) (ex : Bool) (exs : Nat → Bool) (ps : List (List Nat)) (i : Nat) : St := { tm := [(0, u8 tag), (1, dp ex exs ps), (5, .sb true), (6, .sl 6 [] 0 (allN tag ps i).length (allN tag ps i).length false 1), (7, i64 i)], hp := [(6, .c (.arr (allN tag ps i).length 1 (rowL (allN tag ps i))))], seen := [6] }

theorem lp_A (tag : Nat) (ex : Bool) (exs : Nat → Bool) (ps : List (List Nat)) (K : Nat) (Φ : Ex → St → Prop) :
  (Holds C P 52 [] K Φ (vc C w_lp b_lp [] (start [u8 tag, dp ex exs ps] []) lf)) =
  (Fun W.C W.P (10 : Nat) [] [] (AV.sb true) [] ∧
 (True ∧
 (((decide ((((List.length ps) : Nat) : Int) > (6 : Int))) = true → 
 (Φ Ex.ret (St.mk [((0 : Nat), (AV.v (Value.int IntKind.u8 ((tag : Nat) : Int)))), ((1 : Nat), (AV.dat (List.length ps) ex (1 : Nat) (fun (i : Nat) => (AV.dat (List.length (List.getD ps i [])) (exs i) (1 : Nat) (rowL (List.getD ps i [])))))), ((4 : Nat), (AV.sb true)), ((5 : Nat), (AV.sb true)), ((11 : Nat), (AV.v (Value.bool true)))] [] []))) ∧
 ((decide ((((List.length ps) : Nat) : Int) > (6 : Int))) = false → 
 (LoopOK W.C W.P (52 : Nat) [] K (bodyAt b_lp [1, 1, 1, 1, 0, 1, 0]) (St.mk [((0 : Nat), (AV.v (Value.int IntKind.u8 ((tag : Nat) : Int)))), ((1 : Nat), (AV.dat (List.length ps) ex (1 : Nat) (fun (i : Nat) => (AV.dat (List.length (List.getD ps i [])) (exs i) (1 : Nat) (rowL (List.getD ps i [])))))), ((4 : Nat), (AV.v (Value.bool false))), ((5 : Nat), (AV.sb true)), ((6 : Nat), (AV.sl (14 : Nat) [] (0 : Nat) (1 : Nat) (1 : Nat) true (1 : Nat))), ((7 : Nat), (AV.v (Value.int IntKind.i64 (0 : Int)))), ((11 : Nat), (AV.v (Value.bool false)))] [((14 : Nat), (Blk.c (AV.st [(AV.v (Value.int IntKind.u8 ((tag : Nat) : Int)))])))] [(14 : Nat)]) (fun (e : Ex) (S' : St) => Holds W.C W.P (52 : Nat) [] K Φ (after W.C w_lp b_lp [1, 1, 1, 1, 0, 1, 0] [] lf e S'))))))) := by kernel_rfl
noncomputable abbrev bd_lp_0 : Code := bodyAt (b_lp) [1, 1, 1, 1, 0, 1, 0]
theorem ok_lp_0 : codeOK bd_lp_0 = true := by kernel_rfl
noncomputable abbrev rest_lp_0 (K : Nat) (Φ : Ex → St → Prop) : Ex → St → Prop := fun e S' => Holds C P 52 [] K Φ (after C w_lp (b_lp) [1, 1, 1, 1, 0, 1, 0] [] lf e S')
theorem lp_L0 (tag : Nat) (ex : Bool) (exs : Nat → Bool) (ps : List (List Nat)) (i : Nat) (K : Nat) (Φ : Ex → St → Prop) :
  (Holds C P 52 [] K (RoundQ C 52 [] K (I_p0 tag ex exs ps) (fun i => i ≤ ps.length ∧ ∀ j, j < i → (ps.getD j []).length ≤ 100) (fun i => ps.length - i) ((fun i => ps.length - i) (i)) (rest_lp_0 K Φ)) (vc C w_lp bd_lp_0 [] ((I_p0 tag ex exs ps) (i)) lf)) =
  (((decide (((i : Nat) : Int) < (((List.length ps) : Nat) : Int))) = true → 
 ((((0 : Int) ≤ ((i : Nat) : Int)) ∧ (((i : Nat) : Int) < (((List.length ps) : Nat) : Int))) ∧
  (((decide ((((List.length (List.getD ps i [])) : Nat) : Int) > (100 : Int))) = true → 
  (Φ Ex.ret (St.mk [((0 : Nat), (AV.v (Value.int IntKind.u8 ((tag : Nat) : Int)))), ((1 : Nat), (AV.dat (List.length ps) ex (1 : Nat) (fun (i1 : Nat) => (AV.dat (List.length (List.getD ps i1 [])) (exs i1) (1 : Nat) (rowL (List.getD ps i1 [])))))), ((4 : Nat), (AV.sb true)), ((5 : Nat), (AV.sb true)), ((6 : Nat), (AV.sl (6 : Nat) [] (0 : Nat) (List.length (W.allN tag ps i)) (List.length (W.allN tag ps i)) false (1 : Nat))), ((7 : Nat), (AV.v (Value.int IntKind.i64 ((i : Nat) : Int)))), ((18 : Nat), (AV.v (Value.bool true))), ((26 : Nat), (AV.v (Value.bool true)))] [((6 : Nat), (Blk.c (AV.arr (List.length (W.allN tag ps i)) (1 : Nat) (rowL (W.allN tag ps i)))))] [(6 : Nat)]))) ∧
  ((decide ((((List.length (List.getD ps i [])) : Nat) : Int) > (100 : Int))) = false → 
  ((((0 : Int) ≤ ((i : Nat) : Int)) ∧ (((i : Nat) : Int) < (((List.length ps) : Nat) : Int))) ∧
   (((((List.length (W.allN tag ps i)) + (8 : Nat)) * (1 : Nat)) ≤ (140737488355328 : Nat)) ∧
   ((((0 : Int) ≤ ((i : Nat) : Int)) ∧ (((i : Nat) : Int) < (((List.length ps) : Nat) : Int))) ∧
   ((((((List.length (W.allN tag ps i)) + (8 : Nat)) + (List.length (List.getD ps i []))) * (1 : Nat)) ≤ (140737488355328 : Nat)) ∧
   ((I64 (((i + 1) : Nat) : Int)) ∧
   ((RoundQ C 52 [] K (I_p0 tag ex exs ps) (fun i => i ≤ ps.length ∧ ∀ j, j < i → (ps.getD j []).length ≤ 100) (fun i => ps.length - i) ((fun i => ps.length - i) (i)) (rest_lp_0 K Φ)) Ex.normal (St.mk [((0 : Nat), (AV.v (Value.int IntKind.u8 ((tag : Nat) : Int)))), ((1 : Nat), (AV.dat (List.length ps) ex (1 : Nat) (fun (i1 : Nat) => (AV.dat (List.length (List.getD ps i1 [])) (exs i1) (1 : Nat) (rowL (List.getD ps i1 [])))))), ((5 : Nat), (AV.sb true)), ((6 : Nat), (AV.sl (42 : Nat) [] (0 : Nat) (((List.length (W.allN tag ps i)) + (8 : Nat)) + (List.length (List.getD ps i []))) (((List.length (W.allN tag ps i)) + (8 : Nat)) + (List.length (List.getD ps i []))) false (1 : Nat))), ((7 : Nat), (AV.v (Value.int IntKind.i64 (((i + 1) : Nat) : Int)))), ((18 : Nat), (AV.v (Value.bool true))), ((26 : Nat), (AV.v (Value.bool false)))] [((35 : Nat), (Blk.c (AV.st [(AV.v (Value.int IntKind.u8 (0 : Int))), (AV.v (Value.int IntKind.u8 (0 : Int))), (AV.v (Value.int IntKind.u8 (0 : Int))), (AV.v (Value.int IntKind.u8 (0 : Int))), (AV.v (Value.int IntKind.u8 (0 : Int))), (AV.v (Value.int IntKind.u8 (0 : Int))), (AV.v (Value.int IntKind.u8 (0 : Int))), (AV.v (Value.int IntKind.u8 (IntKind.wrap IntKind.u8 (((List.length (List.getD ps i [])) : Nat) : Int))))]))), ((42 : Nat), (Blk.c (AV.arr (((List.length (W.allN tag ps i)) + (8 : Nat)) + (List.length (List.getD ps i []))) (1 : Nat) (cat ((List.length (W.allN tag ps i)) + (8 : Nat)) (fun (i1 : Nat) => (cat (List.length (W.allN tag ps i)) (fun (i2 : Nat) => (AV.v (Value.int IntKind.u8 (((List.getD (W.allN tag ps i) ((0 : Nat) + i2) (0 : Nat)) : Nat) : Int)))) (fun (i2 : Nat) => (nthD [(AV.v (Value.int IntKind.u8 (0 : Int))), (AV.v (Value.int IntKind.u8 (0 : Int))), (AV.v (Value.int IntKind.u8 (0 : Int))), (AV.v (Value.int IntKind.u8 (0 : Int))), (AV.v (Value.int IntKind.u8 (0 : Int))), (AV.v (Value.int IntKind.u8 (0 : Int))), (AV.v (Value.int IntKind.u8 (0 : Int))), (AV.v (Value.int IntKind.u8 (IntKind.wrap IntKind.u8 (((List.length (List.getD ps i [])) : Nat) : Int))))] ((0 : Nat) + i2) (AV.v (Value.tuple (List.toArray []))))) ((0 : Nat) + i1))) (rowL (List.getD ps i []))))))] [(42 : Nat), (36 : Nat), (35 : Nat), (6 : Nat)]))))))))))) ∧
 ((decide (((i : Nat) : Int) < (((List.length ps) : Nat) : Int))) = false → 
 ((true = true → 
  (Fun W.C W.P (15 : Nat) [(AV.v (Value.int IntKind.u8 ((tag : Nat) : Int))), (AV.dat (List.length ps) ex (1 : Nat) (fun (i1 : Nat) => (AV.dat (List.length (List.getD ps i1 [])) (exs i1) (1 : Nat) (rowL (List.getD ps i1 [])))))] [] (AV.arr (32 : Nat) (1 : Nat) (fun (i1 : Nat) => (AV.v (Value.int IntKind.u8 (((Sp.sumN (Sp.ofBytes tag (partsL (List.length ps) (fun (i2 : Nat) => (AV.dat (List.length (List.getD ps i2 [])) (exs i2) (1 : Nat) (rowL (List.getD ps i2 [])))))) i1) : Nat) : Int))))) [] ∧
   ((∀ (i1 : Nat), ((i1 < (32 : Nat)) → True)) ∧
   (Fun W.C W.P (11 : Nat) [(AV.dat (List.length (W.allN tag ps i)) false (1 : Nat) (fun (i1 : Nat) => (AV.v (Value.int IntKind.u8 (((List.getD (W.allN tag ps i) ((0 : Nat) + i1) (0 : Nat)) : Nat) : Int)))))] [] (AV.arr (32 : Nat) (1 : Nat) (fun (i1 : Nat) => (AV.v (Value.int IntKind.u8 (((Sp.sumN (bytesL (List.length (W.allN tag ps i)) (fun (i2 : Nat) => (AV.v (Value.int IntKind.u8 (((List.getD (W.allN tag ps i) ((0 : Nat) + i2) (0 : Nat)) : Nat) : Int))))) i1) : Nat) : Int))))) [] ∧
   ((∀ (i1 : Nat), ((i1 < (32 : Nat)) → True)) ∧
   ((∀ (i1 : Nat), ((i1 < (32 : Nat)) → ((IntKind.u8 = IntKind.u8) ∧ (IntKind.u8 = IntKind.u8)))) ∧
   (Φ Ex.ret (St.mk [((0 : Nat), (AV.v (Value.int IntKind.u8 ((tag : Nat) : Int)))), ((1 : Nat), (AV.dat (List.length ps) ex (1 : Nat) (fun (i1 : Nat) => (AV.dat (List.length (List.getD ps i1 [])) (exs i1) (1 : Nat) (rowL (List.getD ps i1 [])))))), ((4 : Nat), (AV.sb (List.all (List.range (32 : Nat)) (fun (i1 : Nat) => ((((Sp.sumN (Sp.ofBytes tag (partsL (List.length ps) (fun (i2 : Nat) => (AV.dat (List.length (List.getD ps i2 [])) (exs i2) (1 : Nat) (rowL (List.getD ps i2 [])))))) i1) : Nat) : Int) == (((Sp.sumN (bytesL (List.length (W.allN tag ps i)) (fun (i2 : Nat) => (AV.v (Value.int IntKind.u8 (((List.getD (W.allN tag ps i) ((0 : Nat) + i2) (0 : Nat)) : Nat) : Int))))) i1) : Nat) : Int)))))), ((5 : Nat), (AV.sb true)), ((6 : Nat), (AV.sl (6 : Nat) [] (0 : Nat) (List.length (W.allN tag ps i)) (List.length (W.allN tag ps i)) false (1 : Nat))), ((7 : Nat), (AV.v (Value.int IntKind.i64 ((i : Nat) : Int)))), ((18 : Nat), (AV.v (Value.bool false)))] [((6 : Nat), (Blk.c (AV.arr (List.length (W.allN tag ps i)) (1 : Nat) (rowL (W.allN tag ps i)))))] [(6 : Nat)])))))))) ∧
  (true = false → 
  (Φ Ex.ret (St.mk [((0 : Nat), (AV.v (Value.int IntKind.u8 ((tag : Nat) : Int)))), ((1 : Nat), (AV.dat (List.length ps) ex (1 : Nat) (fun (i1 : Nat) => (AV.dat (List.length (List.getD ps i1 [])) (exs i1) (1 : Nat) (rowL (List.getD ps i1 [])))))), ((4 : Nat), (AV.v (Value.bool false))), ((5 : Nat), (AV.sb true)), ((6 : Nat), (AV.sl (6 : Nat) [] (0 : Nat) (List.length (W.allN tag ps i)) (List.length (W.allN tag ps i)) false (1 : Nat))), ((7 : Nat), (AV.v (Value.int IntKind.i64 ((i : Nat) : Int)))), ((18 : Nat), (AV.v (Value.bool false)))] [((6 : Nat), (Blk.c (AV.arr (List.length (W.allN tag ps i)) (1 : Nat) (rowL (W.allN tag ps i)))))] [(6 : Nat)])))))) := by kernel_rfl

theorem byte_len (n : Nat) (h : n ≤ 100) (q : Nat) (hq : q < 8) : (eightL n).getD q 0 = if q = 7 then n else 0 := by
  have e : ∀ q, q < 8 → (eightL n).getD q 0 = eightN n q := fun q hq => by simp [eightL, List.getD_eq_getElem?_getD, hq]
  rw [e q hq]
  unfold eightN
  have hm : ((n : Int) % 18446744073709551616).toNat = n := by omega
  rw [hm, Nat.shiftRight_eq_div_pow]
  by_cases h7 : q = 7
  · subst h7; simp; omega
  · rw [if_neg h7]
    have : 8 ≤ 56 - 8 * q := by omega
    have h2 : 2 ^ 8 ≤ 2 ^ (56 - 8 * q) := Nat.pow_le_pow_right (by decide) this
    rw [Nat.div_eq_of_lt (by omega)]

theorem parts_dp {exs : Nat → Bool} {ps : List (List Nat)} (hp : ∀ p ∈ ps, Small p) : Parts ps.length (fun i2 => AV.dat (ps.getD i2 []).length (exs i2) 1 (rowL (ps.getD i2 []))) := fun i hi => by
  have hm : ps.getD i [] ∈ ps := by rw [List.getD_eq_getElem?_getD, List.getElem?_eq_getElem hi]; exact List.getElem_mem _
  exact ⟨_, _, _, _, rfl, .inr rfl, B8_row (hp _ hm) _⟩
theorem partsL_dp (exs : Nat → Bool) (ps : List (List Nat)) : partsL ps.length (fun i2 => AV.dat (ps.getD i2 []).length (exs i2) 1 (rowL (ps.getD i2 []))) = ps := by
  apply List.ext_getElem
  · simp [partsL]
  · intro i h1 h2
    have e : ps.getD i [] = ps[i] := by rw [List.getD_eq_getElem?_getD, List.getElem?_eq_getElem h2]; rfl
    simp only [partsL, List.getElem_map, List.getElem_range, datL]
    rw [e, bytesL_row]

theorem allN_bound {tag : Nat} {ps : List (List Nat)} : ∀ i, i ≤ ps.length → (∀ j, j < i → (ps.getD j []).length ≤ 100) → (allN tag ps i).length ≤ 1 + 108 * i
  | 0, _, _ => by simp [allN, ofBytes]
  | i + 1, hi, h => by
    rw [allN_succ tag ps i (by omega)]
    have := allN_bound (tag := tag) i (by omega) fun j hj => h j (by omega)
    have h2 := h i (by omega)
    simp only [List.length_append, eightL, List.length_map, List.length_range]
    omega

theorem lp_fun (tag : Nat) (ex : Bool) (exs : Nat → Bool) (ps : List (List Nat)) (ht : tag < 256) (hp : ∀ p ∈ ps, Small p) : Fun C P F_lp [u8 tag, dp ex exs ps] [] (.sb true) [] := by
  refine in_lp (W := w_lp) rfl 0 (by simp) rfl (fun id h => absurd rfl h) ?_
  refine of_eq (lp_A tag ex exs ps 0 _) ⟨sanity_fun, trivial, fun h => post_tmp rfl (sm_same rfl), fun h => ?_⟩
  simp only [gt_iff_lt, decide_eq_false_iff_not] at h
  have h6 : ps.length ≤ 6 := by omega
  refine loop_inv (W := w_lp) ctx mixed ok_lp_0 (I_p0 tag ex exs ps) (fun i => i ≤ ps.length ∧ ∀ j, j < i → (ps.getD j []).length ≤ 100) (fun i => ps.length - i) 0 ⟨Nat.zero_le _, fun j hj => absurd hj (Nat.not_lt_zero j)⟩ ?_ fun i hi => ?_
  · refine ent_of [(14, 6)] rfl (tm_cons rfl (sm_same rfl) (tm_cons rfl (sm_same rfl) (tm_cons rfl (sm_same rfl) (tm_cons rfl (sm_sl rfl rfl (Nat.le_refl _) (Nat.le_refl _) (by simp)) (tm_cons rfl (sm_same rfl) tm_nil))))) (hp_cons rfl rfl (sm_row rfl rfl rfl fun i x hx => ?_) hp_nil)
    cases i with
    | zero => cases hx; rfl
    | succ i => cases i <;> cases hx
  clear h
  obtain ⟨hi, hall⟩ := hi
  have hb := allN_bound (tag := tag) i hi hall
  refine of_eq (lp_L0 tag ex exs ps i 0 _) ⟨fun h => ?_, fun h => ?_⟩
  · simp only [decide_eq_true_eq] at h
    refine ⟨(by first | omega | decide | (unfold I64; omega)), fun _ => post_tmp rfl (sm_same rfl), fun h2 => ?_⟩
    simp only [gt_iff_lt, decide_eq_false_iff_not] at h2
    have hi' : i < ps.length := by omega
    have h100 : (ps.getD i []).length ≤ 100 := by omega
    have hs := allN_succ tag ps i hi'
    refine ⟨(by first | omega | decide | (unfold I64; omega)), (by first | omega | decide | (unfold I64; omega)), (by first | omega | decide | (unfold I64; omega)), (by first | omega | decide | (unfold I64; omega)), (by first | omega | decide | (unfold I64; omega)), round_end (i + 1) ⟨by omega, fun j hj => ?_⟩ (ent_of [(42, 6)] rfl (tm_cons rfl (sm_same rfl) (tm_cons rfl (sm_same rfl) (tm_cons rfl (sm_same rfl) (tm_cons rfl (sm_sl rfl ?_ ?_ ?_ (by simp)) (tm_cons rfl (sm_same rfl) tm_nil))))) (hp_cons rfl rfl (sm_arr' ?_ fun j hj => ?_) hp_nil)) (by dsimp only; omega)⟩
    · by_cases e : j = i
      · subst e; exact h100
      · exact hall j (by omega)
    · rw [hs]; simp [eightL]; omega
    · rw [hs]; simp [eightL]; omega
    · rw [hs]; simp [eightL]; omega
    · rw [hs]; simp [eightL]; omega
    · show _ = rowL (allN tag ps (i + 1)) j
      rw [hs, ← List.append_assoc]
      refine cat_rows (by simp [eightL]) (fun k hk => ?_) rfl (fun k hk => rfl) j hj
      rw [Nat.zero_add]
      refine cat_rows rfl (fun q _ => by rw [Nat.zero_add]) (by simp [eightL]) (fun q hq => ?_) k hk
      rw [byte_len _ h100 q hq]
      match q, hq with
      | 0, _ => rfl
      | 1, _ => rfl
      | 2, _ => rfl
      | 3, _ => rfl
      | 4, _ => rfl
      | 5, _ => rfl
      | 6, _ => rfl
      | 7, _ =>
        show AV.v (.int .u8 (IntKind.wrap .u8 _)) = _
        rw [wrap_u8, Nat.mod_eq_of_lt (by omega)]
        rfl
  simp only [decide_eq_false_iff_not] at h
  obtain rfl : i = ps.length := by omega
  rw [allN_all] at hb ⊢
  have hb2 : B8 (ofBytes tag ps).length (fun i1 => u8 ((ofBytes tag ps).getD (0 + i1) 0)) := fun i _ => ⟨rfl, getD_small (small_ofBytes ht hp) _⟩
  have hl : bytesL (ofBytes tag ps).length (fun i1 => u8 ((ofBytes tag ps).getD (0 + i1) 0)) = ofBytes tag ps := bytesL_of rfl fun i _ => by rw [Nat.zero_add]
  have hs := sum_call (ex := false) hb2 (.inr rfl) (by omega)
  have ho := of_call (tag := tag) (ex := ex) (e := 1) ht (parts_dp (exs := exs) hp) (.inr rfl) (by rw [partsL_dp]; omega)
  rw [partsL_dp] at ho ⊢
  rw [hl] at hs ⊢
  refine ⟨fun _ => ⟨ho, fun _ _ => trivial, hs, fun _ _ => trivial, fun _ _ => ⟨rfl, rfl⟩, post_tmp rfl (sm_sb ?_)⟩, nofun⟩
  simp

theorem lp_law {x0 x1 : AV} (h0 : Typed C.tt 6 5 x0) (h1 : Typed C.tt 6 23 x1) : Fun C P F_lp [x0, x1] [] (.sb true) [] := by
  obtain ⟨tag, rfl, ht⟩ := typed_u8 rfl h0
  obtain ⟨ps, ex, exs, hp, _, hs⟩ := typed_parts (s := 22) (e := 5) rfl rfl rfl rfl rfl h1
  exact (lp_fun tag ex exs ps ht fun p hm => (hp p hm).1).sim ⟨sm_same rfl, hs, trivial⟩ trivial
end Go.Bu.W

