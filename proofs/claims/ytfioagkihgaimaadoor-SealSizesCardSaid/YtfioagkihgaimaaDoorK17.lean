/- The reference's sealing gives back the same. -/
import Derived.Test.YtfioagkihgaimaaDoorK16
import Derived.Test.YtfioagkihgaimaaDoorK10
namespace Go.Bu.W
open Sp
theorem streamN_le (key : List Nat) (id : Int) {n m i : Nat} (h : i < n) (h2 : n ≤ m) : streamN key id m i = streamN key id n i := by
  unfold streamN
  rw [streamL_get _ _ h, streamL_get _ _ (by omega)]
theorem upN_le (n : Nat) : n ≤ upN (n : Int) := by unfold upN; omega
theorem noise_fun (key : List Nat) (id : Int) (ex : Bool) (b : List Nat) (hk : key.length = 32) (hs : Small key) (hid : I64 id) (hb : Small b) (hn : b.length < 2 ^ 40) : Fun C P F_noise [kyA key, .i id, dB ex b] [] (ownB (mixL key id b)).1 (ownB (mixL key id b)).2 := by
  refine in_noise (W := w_noise) rfl 0 (by simp) rfl (fun id h => absurd rfl h) ?_
  refine of_eq (noise_A key id ex b 0 _) ?_
  rw [kyl hk]
  have hu := upN_le b.length
  refine ⟨rstream_fun key id b.length hk hs hid (by simpa using hn), ?_⟩
  refine loop_inv (W := w_noise) ctx mixed ok_noise_0 (I_noise key id ex b) (fun i => i ≤ b.length) (fun i => b.length - i) 0 (Nat.zero_le _) ?_ fun i hi => ?_
  · exact ent_of [(10, 7), (15, 8)] rfl (tm_cons rfl (sm_same rfl) (tm_cons rfl (sm_sl rfl rfl (Nat.le_refl _) (Nat.le_refl _) (by simp)) (tm_cons rfl (sm_sl rfl rfl hu (Nat.le_refl _) (by simp)) (tm_cons rfl (sm_same rfl) tm_nil)))) (hp_cons rfl rfl (sm_row rfl rfl rfl (fun i x h => by cases h)) (hp_cons rfl rfl (sm_same rfl) hp_nil))
  refine of_eq (noise_L0 key id ex b i 0 _) ⟨fun h => ?_, fun h => ?_⟩
  · simp only [decide_eq_true_eq] at h
    have hi' : i < b.length := by omega
    have e : bXor .u8 ((b.getD i 0 : Nat) : Int) ((streamN key id (upN (b.length : Int)) (0 + i) : Nat) : Int) = (((mixL key id b).getD i 0 : Nat) : Int) := by
      rw [Nat.zero_add, xor8 (getD_small hb i) (streamN_lt _ _ _ _), mixL_getD _ _ _ hi', streamN_le key id hi' hu]
    rw [e]
    refine ⟨(by first | omega | decide | (unfold I64; omega)), (by first | omega | decide | (unfold I64; omega)), (by first | omega | decide | (unfold I64; omega)), (by first | omega | decide | (unfold I64; omega)), round_end (i + 1) (by omega) (ent_of [(33, 7), (8, 8)] rfl (tm_cons rfl (sm_same rfl) (tm_cons rfl (sm_sl rfl rfl (Nat.le_refl _) (Nat.le_refl _) (by simp)) (tm_cons rfl (sm_sl rfl rfl hu (Nat.le_refl _) (by simp)) (tm_cons rfl (sm_same rfl) tm_nil)))) (hp_cons rfl rfl (sm_arr' rfl fun j hj => ?_) (hp_cons rfl rfl (sm_same rfl) hp_nil))) (by dsimp only; omega)⟩
    unfold cat
    by_cases e2 : j < i
    · rw [if_pos e2]; simp only [Nat.zero_add]; rfl
    · obtain rfl : j = i := by omega
      rw [if_neg e2, Nat.sub_self]; rfl
  · simp only [decide_eq_false_iff_not] at h
    obtain rfl : i = b.length := by omega
    exact post_own (l := mixL key id b) rfl rfl (mixL_len _ _ _).symm (by rw [mixL_len]; exact Nat.le_refl _) (mixL_len _ _ _).symm fun _ _ => rfl
theorem noise_call {n e : Nat} {ex : Bool} {f g : Nat → AV} {id : Int} (hf : B8 32 f) (hid : I64 id) (hg : B8 n g) (he : n = 0 ∨ e = 1) (hn : n < 2 ^ 40) : Fun C P F_noise [.arr 32 1 f, .i id, .dat n ex e g] [] (ownB (mixL (bytesL 32 f) id (bytesL n g))).1 (ownB (mixL (bytesL 32 f) id (bytesL n g))).2 :=
  (noise_fun (bytesL 32 f) id ex (bytesL n g) (bytesL_len _ _) (small_bytesL hf) hid (small_bytesL hg) (by rw [bytesL_len]; exact hn)).sim ⟨simK hf, sm_same rfl, simD hg he, trivial⟩ trivial
def partsH (key : List Nat) (id : Int) (d : AV) : List (Nat × Blk) := [(0, .c (.st [.sl 1 [] 0 32 32 false 1, .sl 2 [] 0 4 4 false 1, d])), (1, .c (.arr 32 1 (rowL key))), (2, .c (.st (nums id)))]
theorem parts_fun (key : List Nat) (id : Int) (ex : Bool) (b : List Nat) (hk : key.length = 32) (hs : Small key) : Fun C P F_parts [kyA key, .i id, dB ex b] [] (.sl 0 [] 0 3 3 false 1) (partsH key id (dB ex b)) := by
  refine in_parts (W := w_parts) rfl 0 (by simp) rfl (fun id h => absurd rfl h) ?_
  refine of_eq (parts_A key id ex b 0 _) ?_
  refine loop_inv (W := w_parts) ctx mixed ok_parts_0 (I_parts key id ex b) (fun i => i ≤ 32) (fun i => 32 - i) 0 (Nat.zero_le _) ?_ fun i hi => ?_
  · exact ent_of [(3, 3), (9, 7)] rfl (tm_cons rfl (sm_same rfl) (tm_cons rfl (sm_same rfl) (tm_cons rfl (sm_ptr rfl) (tm_cons rfl (sm_sl rfl rfl (Nat.le_refl _) (Nat.le_refl _) (by simp)) (tm_cons rfl (sm_same rfl) tm_nil))))) (hp_cons rfl rfl (sm_same rfl) (hp_cons rfl rfl (sm_row rfl rfl rfl (fun i x h => by cases h)) hp_nil))
  refine of_eq (parts_L0 key id ex b i 0 _) ⟨fun h => ?_, fun h => ?_⟩
  · simp only [decide_eq_true_eq] at h
    refine ⟨(by first | omega | decide | (unfold I64; omega)), (by first | omega | decide | (unfold I64; omega)), (by first | omega | decide | (unfold I64; omega)), round_end (i + 1) (by omega) (ent_of [(3, 3), (19, 7)] rfl (tm_cons rfl (sm_same rfl) (tm_cons rfl (sm_same rfl) (tm_cons rfl (sm_ptr rfl) (tm_cons rfl (sm_sl rfl rfl (Nat.le_refl _) (Nat.le_refl _) (by simp)) (tm_cons rfl (sm_same rfl) tm_nil))))) (hp_cons rfl rfl (sm_same rfl) (hp_cons rfl rfl (sm_arr' rfl fun j hj => ?_) hp_nil))) (by dsimp only; omega)⟩
    unfold cat
    by_cases e2 : j < i
    · rw [if_pos e2]; simp only [Nat.zero_add]; rfl
    · obtain rfl : j = i := by omega
      rw [if_neg e2, Nat.sub_self]; rfl
  · simp only [decide_eq_false_iff_not] at h
    obtain rfl : i = 32 := by omega
    refine ⟨(by first | omega | decide | (unfold I64; omega)), (by first | omega | decide | (unfold I64; omega)), (by first | omega | decide | (unfold I64; omega)), ?_⟩
    refine funPost_of (r' := .sl 0 [] 0 3 3 false 1) (S2 := { tm := [(6, .sl 0 [] 0 3 3 false 1)], hp := partsH key id (dB ex b), seen := [0, 1, 2] }) (by simp) (ent_of [(34, 0), (7, 1), (32, 2)] rfl (tm_cons rfl (sm_sl rfl rfl (Nat.le_refl _) (Nat.le_refl _) (by simp)) tm_nil) ?_) rfl
      (.inr ⟨rfl, rfl, rfl, rfl, Nat.le_refl _, Nat.le_refl _, by simp, rfl⟩) fun _ _ h => h
    exact hp_cons rfl rfl (sm_st (sms_cons (sm_sl rfl rfl (Nat.le_refl _) (Nat.le_refl _) (by simp)) (sms_cons (sm_sl rfl rfl (Nat.le_refl _) (Nat.le_refl _) (by simp)) (sms_cons (sm_same rfl) sms_nil)))) (hp_cons rfl rfl (sm_same rfl) (hp_cons rfl rfl (sm_same rfl) hp_nil))
theorem rtag_fun (key : List Nat) (id : Int) (ex : Bool) (b : List Nat) (hk : key.length = 32) (hs : Small key) (hb : Small b) (hn : b.length < 2 ^ 41) : Fun C P F_rtag [kyA key, .i id, dB ex b] [] (sumAV (tagB key id b)) [] := by
  refine in_rtag (W := w_rtag) rfl 0 (by simp) rfl (fun id h => absurd rfl h) ?_
  refine of_eq (rtag_A key id ex b 0 _) ?_
  rw [kyl hk]
  refine ⟨parts_fun key id ex b hk hs, rof_call (by decide) (parts_three ⟨_, _, _, _, rfl, .inr rfl, b8_get hs 32 0⟩ ⟨_, _, _, _, rfl, .inr rfl, b8_nums id _⟩ ⟨_, _, _, _, rfl, .inr rfl, B8_row hb _⟩) (.inr rfl) ?_, fun _ _ => trivial, ⟨rfl, rfl, fun _ _ => ⟨rfl, rfl⟩⟩, post_cell rfl rfl (sm_arr fun i hi => ?_) rfl⟩
  · show (ofBytes 84 (partsL 3 (fun i => nthD [_, .dat 4 false 1 (fun i => nthD (nums id) (0 + i) _), _] (0 + i) _))).length < _
    rw [partsL3, kyl0 hk, datN, datR]
    simp [ofBytes, eightL, hk, num4]
    omega
  · show u8 (sumN (ofBytes 84 (partsL 3 (fun i => nthD [_, .dat 4 false 1 (fun i => nthD (nums id) (0 + i) _), _] (0 + i) _))) i) = _
    rw [partsL3, kyl0 hk, datN, datR]
    rfl
theorem rtag_call {n e : Nat} {ex : Bool} {f g : Nat → AV} {id : Int} (hf : B8 32 f) (hg : B8 n g) (he : n = 0 ∨ e = 1) (hn : n < 2 ^ 41) : Fun C P F_rtag [.arr 32 1 f, .i id, .dat n ex e g] [] (sumAV (tagB (bytesL 32 f) id (bytesL n g))) [] :=
  (rtag_fun (bytesL 32 f) id ex (bytesL n g) (bytesL_len _ _) (small_bytesL hf) (small_bytesL hg) (by rw [bytesL_len]; exact hn)).sim ⟨simK hf, sm_same rfl, simD hg he, trivial⟩ trivial
theorem right_list {c : List Nat} (h : 32 ≤ c.length) {B : List Nat} (hb : ∀ k, k < 32 → c.getD (c.length - 32 + k) 0 = sumN B k) : c.drop (c.length - 32) = sumL B := by
  have := all_tag h B
  have h1 : ((List.range 32).all fun i => (((c.getD (c.length - 32 + i) 0 : Nat) : Int) == ((sumN B i : Nat) : Int))) = true := by
    rw [List.all_eq_true]
    intro i hi
    rw [hb i (List.mem_range.1 hi)]
    simp
  rw [h1] at this
  simpa using this.symm
theorem right_fun (key : List Nat) (id : Int) (ex : Bool) (b : List Nat) (hk : key.length = 32) (hs : Small key) (hb : Small b) (hn : b.length < 2 ^ 40) : Fun C P F_right [kyA key, .i id, dB ex b] [] (.sb (rightB key id b)) [] := by
  refine in_right (W := w_right) rfl 0 (by simp) rfl (fun id h => absurd rfl h) ?_
  refine of_eq (right_A key id ex b 0 _) ⟨(by first | omega | decide | (unfold I64; omega)), fun h => ?_, fun h => ?_⟩
  · simp only [decide_eq_true_eq] at h
    have hr : rightB key id b = false := by unfold rightB; rw [decide_eq_false (by omega)]; rfl
    rw [hr]
    exact post_tmp rfl (sm_b rfl)
  · simp only [decide_eq_false_iff_not] at h
    have h32 : 32 ≤ b.length := by omega
    have e : ((b.length : Int) - 32).toNat = b.length - 32 := by omega
    rw [e]
    have hc : datL (.dat (b.length - 32) false 1 (fun i => u8 (b.getD (0 + i) 0))) = cutL b := datC b false (by omega)
    refine ⟨(by first | omega | decide | (unfold I64; omega)), rtag_call (B8_row hs 32) (b8_get hb _ 0) (.inr rfl) (by first | omega | decide | (unfold I64; omega)), fun _ _ => trivial, ⟨rfl, rfl, fun _ _ => ⟨rfl, rfl⟩⟩, ?_⟩
    rw [kyl hk, hc]
    refine loop_inv (W := w_right) ctx mixed ok_right_0 (I_right key id ex b) (fun i => i ≤ 32 ∧ ∀ k, k < i → b.getD (b.length - 32 + k) 0 = sumN (tagB key id (cutL b)) k) (fun i => 32 - i) 0 ⟨by omega, fun k hk => by omega⟩ ?_ fun i hi => ?_
    · exact ent_of [(8, 8)] rfl (tm_cons rfl (sm_same rfl) (tm_cons rfl (sm_same rfl) (tm_cons rfl (sm_ptr rfl) (tm_cons rfl (sm_same rfl) tm_nil)))) (hp_cons rfl rfl (sm_same rfl) hp_nil)
    obtain ⟨hi, hq⟩ := hi
    refine of_eq (right_L0 key id ex b i 0 _) ⟨fun h2 => ?_, fun h2 => ?_⟩
    · simp only [decide_eq_true_eq] at h2
      have e2 : ((b.length : Int) - 32 + i).toNat = b.length - 32 + i := by omega
      rw [e2]
      refine ⟨(by first | omega | decide | (unfold I64; omega)), (by first | omega | decide | (unfold I64; omega)), (by first | omega | decide | (unfold I64; omega)), fun h3 => ?_, fun h3 => ⟨(by first | omega | decide | (unfold I64; omega)), round_end (i + 1) ⟨by omega, fun k hk => ?_⟩ (ent_of [(8, 8)] rfl (tm_cons rfl (sm_same rfl) (tm_cons rfl (sm_same rfl) (tm_cons rfl (sm_ptr rfl) (tm_cons rfl (sm_same rfl) tm_nil)))) (hp_cons rfl rfl (sm_same rfl) hp_nil)) (by dsimp only; omega)⟩⟩
      · have hr : rightB key id b = false := by
          unfold rightB
          rw [Bool.and_eq_false_iff]
          refine .inr (decide_eq_false fun he => ?_)
          have h4 : b.getD (b.length - 32 + i) 0 = (b.drop (b.length - 32)).getD i 0 := by simp [List.getD_eq_getElem?_getD]
          rw [h4, he] at h3
          unfold tagL at h3
          rw [sumL_get _ (by omega)] at h3
          simp at h3
        rw [hr]
        exact post_tmp rfl (sm_b rfl)
      · by_cases hk' : k < i
        · exact hq k hk'
        · obtain rfl : k = i := by omega
          have : ((b.getD (b.length - 32 + k) 0 : Nat) : Int) = ((sumN (tagB key id (cutL b)) k : Nat) : Int) := by simpa using h3
          exact_mod_cast this
    · simp only [decide_eq_false_iff_not] at h2
      obtain rfl : i = 32 := by omega
      have hr : rightB key id b = true := by
        unfold rightB
        rw [decide_eq_true h32, decide_eq_true (show b.drop (b.length - 32) = tagL key id (cutL b) from right_list h32 hq)]; rfl
      rw [hr]
      exact post_tmp rfl (sm_b rfl)
theorem right_call {n e : Nat} {ex : Bool} {f g : Nat → AV} {id : Int} (hf : B8 32 f) (hg : B8 n g) (he : n = 0 ∨ e = 1) (hn : n < 2 ^ 40) : Fun C P F_right [.arr 32 1 f, .i id, .dat n ex e g] [] (.sb (rightB (bytesL 32 f) id (bytesL n g))) [] :=
  (right_fun (bytesL 32 f) id ex (bytesL n g) (bytesL_len _ _) (small_bytesL hf) (small_bytesL hg) (by rw [bytesL_len]; exact hn)).sim ⟨simK hf, sm_same rfl, simD hg he, trivial⟩ trivial
theorem rseal_fun (key : List Nat) (id : Int) (ex : Bool) (b : List Nat) (hk : key.length = 32) (hs : Small key) (hid : I64 id) (hb : Small b) (hn : b.length < 2 ^ 40) : Fun C P F_rseal [kyA key, .i id, dB ex b] [] (ownB (sealL key id b)).1 (ownB (sealL key id b)).2 := by
  refine in_rseal (W := w_rseal) rfl 0 (by simp) rfl (fun id h => absurd rfl h) ?_
  refine of_eq (rseal_A key id ex b 0 _) ?_
  have hl := mixL_len key id b
  have hm := small_mixL key id hb
  have ht := rtag_call (f := rowL key) (g := fun i => u8 ((mixL key id b).getD (0 + i) 0)) (n := (mixL key id b).length) (ex := false) (id := id) (B8_row hs 32) (b8_get hm _ 0) (.inr rfl) (by rw [hl]; omega)
  have hc2 : bytesL (mixL key id b).length (fun i => u8 ((mixL key id b).getD (0 + i) 0)) = mixL key id b := datL0 _ false
  rw [kyl hk, hc2] at ht
  rw [kyl hk, datR, datL0]
  refine ⟨noise_fun key id ex b hk hs hid hb hn, ht, fun _ _ => trivial, ⟨rfl, rfl, fun _ _ => ⟨rfl, rfl⟩⟩, ?_⟩
  have hsl : ∀ j, j < b.length → (sealL key id b).getD j 0 = (mixL key id b).getD j 0 := fun j hj => by
    unfold sealL; rw [getD_append, if_pos (by omega)]
  have hsr : ∀ j, j < 32 → (sealL key id b).getD (b.length + j) 0 = sumN (tagB key id (mixL key id b)) j := fun j hj => by
    unfold sealL; rw [getD_append, if_neg (by omega), hl, Nat.add_sub_cancel_left]; exact sumL_get _ hj
  refine loop_inv (W := w_rseal) ctx mixed ok_rseal_0 (I_rseal key id b) (fun i => i ≤ 32) (fun i => 32 - i) 0 (Nat.zero_le _) ?_ fun i hi => ?_
  · refine ent_of [(13, 7), (8, 8)] rfl (tm_cons rfl (sm_sl rfl (by rw [hl]; rfl) (by rw [hl]; exact Nat.le_refl _) (by rw [hl]; exact Nat.le_refl _) (by simp)) (tm_cons rfl (sm_ptr rfl) (tm_cons rfl (sm_same rfl) tm_nil))) (hp_cons rfl rfl (sm_arr' (by rw [hl]; rfl) fun j hj => ?_) (hp_cons rfl rfl (sm_same rfl) hp_nil))
    exact congrArg (fun z : Nat => u8 z) (hsl j (by omega)).symm
  refine of_eq (rseal_L0 key id b i 0 _) ⟨fun h => ?_, fun h => ?_⟩
  · simp only [decide_eq_true_eq] at h
    refine ⟨(by first | omega | decide | (unfold I64; omega)), (by first | omega | decide | (unfold I64; omega)), (by first | omega | decide | (unfold I64; omega)), round_end (i + 1) (by omega) (ent_of [(27, 7), (8, 8)] rfl (tm_cons rfl (sm_sl rfl rfl (Nat.le_refl _) (Nat.le_refl _) (by simp)) (tm_cons rfl (sm_ptr rfl) (tm_cons rfl (sm_same rfl) tm_nil))) (hp_cons rfl rfl (sm_arr' rfl fun j hj => ?_) (hp_cons rfl rfl (sm_same rfl) hp_nil))) (by dsimp only; omega)⟩
    unfold cat
    by_cases e2 : j < b.length + i
    · rw [if_pos e2]; simp only [Nat.zero_add]; rfl
    · obtain rfl : j = b.length + i := by omega
      rw [if_neg e2, Nat.sub_self]
      exact congrArg (fun z : Nat => u8 z) (hsr i (by omega)).symm
  · simp only [decide_eq_false_iff_not] at h
    obtain rfl : i = 32 := by omega
    exact post_own (l := sealL key id b) rfl rfl (sealL_len _ _ _).symm (by rw [sealL_len]; exact Nat.le_refl _) (sealL_len _ _ _).symm fun _ _ => rfl
theorem rseal_call {n e : Nat} {ex : Bool} {f g : Nat → AV} {id : Int} (hf : B8 32 f) (hid : I64 id) (hg : B8 n g) (he : n = 0 ∨ e = 1) (hn : n < 2 ^ 40) : Fun C P F_rseal [.arr 32 1 f, .i id, .dat n ex e g] [] (ownB (sealL (bytesL 32 f) id (bytesL n g))).1 (ownB (sealL (bytesL 32 f) id (bytesL n g))).2 :=
  (rseal_fun (bytesL 32 f) id ex (bytesL n g) (bytesL_len _ _) (small_bytesL hf) hid (small_bytesL hg) (by rw [bytesL_len]; exact hn)).sim ⟨simK hf, sm_same rfl, simD hg he, trivial⟩ trivial
theorem rsize_call {n e : Nat} {ex : Bool} {g : Nat → AV} (hg : B8 n g) (he : n = 0 ∨ e = 1) (hn : n < 2 ^ 60) : Fun C P F_rsize [.dat n ex e g] [] (.i (max 0 ((n : Int) - 32))) [] := by
  have h : Fun C P F_rsize [dB ex (bytesL n g)] [] (.i (max 0 ((n : Int) - 32))) [] := by
    refine in_rsize (W := w_rsize) rfl 0 (by simp) rfl (fun id h => absurd rfl h) ?_
    have hl := bytesL_len n g
    exact of_eq (rsize_A ex (bytesL n g) 0 _) ⟨(by first | omega | decide | (unfold I64; omega)), post_tmp rfl (sm_int (by rw [hl]))⟩
  exact h.sim ⟨.inr ⟨(bytesL_len n g).symm, id, he, fun i hi => .inl (row_bytesL hg i hi)⟩, trivial⟩ trivial
theorem openin_fun (key : List Nat) (id : Int) (ex : Bool) (b : List Nat) (hk : key.length = 32) (hs : Small key) (hid : I64 id) (hb : Small b) (hn : b.length < 2 ^ 40) :
    Fun C P F_openin [kyA key, .i id, dB ex b] [] (.st [(ownB (openL key id b)).1, .i (openE key id b)]) (ownB (openL key id b)).2 := by
  refine in_openin (W := w_openin) rfl 0 (by simp) rfl (fun id h => absurd rfl h) ?_
  refine of_eq (openin_A key id ex b 0 _) ⟨right_call (B8_row hs 32) (B8_row hb _) (.inr rfl) hn, trivial, ?_⟩
  rw [kyl hk, datR]
  refine ⟨fun h => ⟨⟨⟨rfl, rfl⟩, ⟨rfl, rfl⟩, trivial⟩, ?_⟩, fun h => ?_⟩
  · have hr : rightB key id b = false := by simpa using h
    rw [(right_no hr).1, (right_no hr).2]
    exact post_st_nil rfl rfl rfl rfl
  · have hr : rightB key id b = true := by simpa using h
    have h32 : 32 ≤ b.length := by
      have := hr
      unfold rightB at this
      rw [Bool.and_eq_true] at this
      exact of_decide_eq_true this.1
    have e : ((b.length : Int) - 32).toNat = b.length - 32 := by omega
    rw [e]
    have hc2 : bytesL (b.length - 32) (fun i => u8 (b.getD (0 + i) 0)) = cutL b := datC b false (by omega)
    have hmx := noise_call (f := rowL key) (g := fun i => u8 (b.getD (0 + i) 0)) (n := b.length - 32) (ex := false) (B8_row hs 32) hid (b8_get hb _ 0) (.inr rfl) (by first | omega | decide | (unfold I64; omega))
    rw [kyl hk, hc2] at hmx
    rw [datC b false (by omega)]
    rw [(right_yes hr).1, (right_yes hr).2]
    exact ⟨(by first | omega | decide | (unfold I64; omega)), (by first | omega | decide | (unfold I64; omega)), hmx, ⟨⟨rfl, rfl⟩, ⟨rfl, rfl⟩, trivial⟩, post_st_eq rfl rfl rfl rfl rfl rfl rfl⟩
theorem openin_call {n e : Nat} {ex : Bool} {f g : Nat → AV} {id : Int} (hf : B8 32 f) (hid : I64 id) (hg : B8 n g) (he : n = 0 ∨ e = 1) (hn : n < 2 ^ 40) :
    Fun C P F_openin [.arr 32 1 f, .i id, .dat n ex e g] [] (.st [(ownB (openL (bytesL 32 f) id (bytesL n g))).1, .i (openE (bytesL 32 f) id (bytesL n g))]) (ownB (openL (bytesL 32 f) id (bytesL n g))).2 :=
  (openin_fun (bytesL 32 f) id ex (bytesL n g) (bytesL_len _ _) (small_bytesL hf) hid (small_bytesL hg) (by rw [bytesL_len]; exact hn)).sim ⟨simK hf, sm_same rfl, simD hg he, trivial⟩ trivial
theorem rekeyin_fun (old key : List Nat) (id : Int) (ex : Bool) (b : List Nat) (ho : old.length = 32) (hos : Small old) (hk : key.length = 32) (hs : Small key) (hid : I64 id) (hb : Small b) (hn : b.length < 2 ^ 40) :
    Fun C P F_rekeyin [kyA old, kyA key, .i id, dB ex b] [] (.st [(ownB (rekeyL old key id b)).1, .i (openE old id b)]) (ownB (rekeyL old key id b)).2 := by
  refine in_rekeyin (W := w_rekeyin) rfl 0 (by simp) rfl (fun id h => absurd rfl h) ?_
  refine of_eq (rekeyin_A old key id ex b 0 _) ⟨openin_call (B8_row hos 32) hid (B8_row hb _) (.inr rfl) hn, ⟨⟨rfl, rfl⟩, ⟨rfl, rfl⟩, trivial⟩, ?_⟩
  have hL : Small (openL old id b) := small_openL _ _ hb
  have hl := openL_len old id b
  rw [kyl ho, datR]
  refine ⟨fun h => ⟨⟨⟨rfl, rfl⟩, ⟨rfl, rfl⟩, trivial⟩, ?_⟩, fun h => ⟨rseal_call (B8_row hs 32) hid (b8_get hL _ 0) (.inr rfl) (by omega), ⟨⟨rfl, rfl⟩, ⟨rfl, rfl⟩, trivial⟩, ?_⟩⟩
  · have hr : rightB old id b = false := by
      refine Bool.eq_false_iff.2 fun hr => ?_
      rw [(right_yes hr).2] at h
      simp at h
    rw [rekeyL_no hr]
    exact post_st_eq rfl rfl rfl (right_no hr).1 rfl rfl rfl
  · have hr : rightB old id b = true := by
      cases hr : rightB old id b with
      | true => rfl
      | false => rw [(right_no hr).2] at h; simp at h
    rw [rekeyL_yes hr]
    refine post_st_eq rfl rfl rfl ?_ (right_yes hr).2.symm rfl rfl
    rw [datL0, kyl hk]
theorem rekeyin_call {n e : Nat} {ex : Bool} {f f2 g : Nat → AV} {id : Int} (hf : B8 32 f) (hf2 : B8 32 f2) (hid : I64 id) (hg : B8 n g) (he : n = 0 ∨ e = 1) (hn : n < 2 ^ 40) :
    Fun C P F_rekeyin [.arr 32 1 f, .arr 32 1 f2, .i id, .dat n ex e g] [] (.st [(ownB (rekeyL (bytesL 32 f) (bytesL 32 f2) id (bytesL n g))).1, .i (openE (bytesL 32 f) id (bytesL n g))]) (ownB (rekeyL (bytesL 32 f) (bytesL 32 f2) id (bytesL n g))).2 :=
  (rekeyin_fun (bytesL 32 f) (bytesL 32 f2) id ex (bytesL n g) (bytesL_len _ _) (small_bytesL hf) (bytesL_len _ _) (small_bytesL hf2) hid (small_bytesL hg) (by rw [bytesL_len]; exact hn)).sim ⟨simK hf, simK hf2, sm_same rfl, simD hg he, trivial⟩ trivial
theorem rkey_fun (n : Nat) : Fun C P F_rkey [u8 n] [] (kyA (List.replicate 32 n)) [] := by
  refine in_rkey (W := w_rkey) rfl 0 (by simp) rfl (fun id h => absurd rfl h) ?_
  refine of_eq (rkey_A n 0 _) ⟨⟨rfl, rfl, fun _ _ => ⟨rfl, rfl⟩⟩, ?_⟩
  refine loop_inv (W := w_rkey) ctx mixed ok_rkey_0 (I_rkey n) (fun i => i ≤ 32) (fun i => 32 - i) 0 (Nat.zero_le _) ?_ fun i hi => ?_
  · refine ent_of [(2, 2), (3, 3)] rfl (tm_cons rfl (sm_same rfl) (tm_cons rfl (sm_ptr rfl) (tm_cons rfl (sm_ptr rfl) (tm_cons rfl (sm_same rfl) tm_nil)))) (hp_cons rfl rfl (sm_same rfl) (hp_cons rfl rfl (sm_arr fun j hj => ?_) hp_nil))
    dsimp only
    rw [if_neg (by omega)]; rfl
  refine of_eq (rkey_L0 n i 0 _) ⟨fun h => ?_, fun h => ?_⟩
  · simp only [decide_eq_true_eq] at h
    refine ⟨(by first | omega | decide | (unfold I64; omega)), (by first | omega | decide | (unfold I64; omega)), round_end (i + 1) (by omega) (ent_of [(2, 2), (3, 3)] rfl (tm_cons rfl (sm_same rfl) (tm_cons rfl (sm_ptr rfl) (tm_cons rfl (sm_ptr rfl) (tm_cons rfl (sm_same rfl) tm_nil)))) (hp_cons rfl rfl (sm_same rfl) (hp_cons rfl rfl (sm_arr fun j hj => ?_) hp_nil))) (by dsimp only; omega)⟩
    dsimp only
    by_cases e : j = i
    · rw [if_pos e, if_pos (by omega)]
    · rw [if_neg e]
      by_cases e2 : j < i
      · rw [if_pos e2, if_pos (by omega)]
      · rw [if_neg e2, if_neg (by omega)]
  · simp only [decide_eq_false_iff_not] at h
    obtain rfl : i = 32 := by omega
    refine ⟨⟨rfl, rfl, fun _ _ => ⟨rfl, rfl⟩⟩, post_cell rfl rfl (sm_arr fun j hj => ?_) rfl⟩
    rw [if_pos hj]
    have e : (List.replicate 32 n).getD j 0 = n := by rw [List.getD_eq_getElem?_getD, List.getElem?_replicate, if_pos hj]; rfl
    show u8 n = u8 ((List.replicate 32 n).getD j 0)
    rw [e]
theorem same_fun (ex : Bool) (a : List Nat) (p : Int) (ex' : Bool) (b : List Nat) (q : Int) (ha : Small a) (hb : Small b) : Fun C P F_same [.st [dB ex a, .i p], .st [dB ex' b, .i q]] [] (.sb (decide (a = b) && decide (p = q))) [] := by
  refine in_same (W := w_same) rfl 0 (by simp) rfl (fun id h => absurd rfl h) ?_
  refine of_eq (same_A ex a p ex' b q 0 _) ⟨fun i _ => u8_in (getD_small ha i), fun i _ => u8_in (getD_small hb i), ?_⟩
  rw [str_row ha hb]
  refine ⟨fun h => ?_, fun h => ?_⟩
  · rw [h]
    refine post_tmp rfl (sm_sb ?_)
    rw [Bool.true_and]
    rfl
  · rw [h]
    exact post_tmp rfl (sm_b rfl)
theorem same_call {n m e e' : Nat} {ex ex' : Bool} {f g : Nat → AV} {p q : Int} (hf : B8 n f) (he : n = 0 ∨ e = 1) (hg : B8 m g) (he' : m = 0 ∨ e' = 1) : Fun C P F_same [.st [.dat n ex e f, .i p], .st [.dat m ex' e' g, .i q]] [] (.sb (decide (bytesL n f = bytesL m g) && decide (p = q))) [] :=
  (same_fun ex (bytesL n f) p ex' (bytesL m g) q (small_bytesL hf) (small_bytesL hg)).sim ⟨sm_st (sms_cons (simD hf he) (sms_cons (sm_same rfl) sms_nil)), sm_st (sms_cons (simD hg he') (sms_cons (sm_same rfl) sms_nil)), trivial⟩ trivial
end Go.Bu.W

namespace Go.Bu.W
open Sp
def crU (g : Nat) (args : List AV) (H : List (Nat × Blk)) : Option (AV × List (Nat × Blk)) :=
  sel (Nat.beq g F_sanity) (some (.sb true, [])) <| crR5 g args H
def wayU (keep : List Nat) (nt : Nat) (cuts : List Nat) : Way := ⟨crU, fun _ => false, keep, [], nt, cuts⟩
def w_sanity : Way := wayU [0, 1, 2, 3, 28] 60 [3]
def S_sy3 (key c d : List Nat) : St := { tm := [(1, .ptr 1 []), (2, dB false c), (3, dB false d)], hp := [(1, .c (kyA key))], seen := [1] }

theorem sanity_A  (K : Nat) (Φ : Ex → St → Prop) :
  (Holds C P 60 [] K Φ (vc C w_sanity b_sanity [] (start [] []) lf)) =
  (Fun W.C W.P (25 : Nat) [(AV.v (Value.int IntKind.u8 (7 : Int)))] [] (AV.arr (32 : Nat) (1 : Nat) (rowL (List.replicate (32 : Nat) (7 : Nat)))) [] ∧
 ((∀ (i : Nat), ((i < (32 : Nat)) → True)) ∧
 ((((32 : Nat) = (32 : Nat)) ∧ (((1 : Nat) = (1 : Nat)) ∧ (∀ (i : Nat), ((i < (32 : Nat)) → ((true = true) ∧ (Bool.true = true)))))) ∧
 (((0 : Nat) < (3 : Nat)) ∧
 (Fun W.C W.P (12 : Nat) [(AV.arr (32 : Nat) (1 : Nat) (rowL (List.replicate (32 : Nat) (7 : Nat)))), (AV.v (Value.int IntKind.i64 (5 : Int))), (AV.dat (3 : Nat) false (1 : Nat) (fun (i : Nat) => (nthD [(AV.v (Value.int IntKind.u8 (97 : Int))), (AV.v (Value.int IntKind.u8 (98 : Int))), (AV.v (Value.int IntKind.u8 (99 : Int)))] ((0 : Nat) + i) (AV.v (Value.tuple (List.toArray []))))))] [] (AV.sl (0 : Nat) [] (0 : Nat) (35 : Nat) (35 : Nat) false (1 : Nat)) [((0 : Nat), (Blk.c (AV.arr (35 : Nat) (1 : Nat) (rowL (W.sealL (bytesL (32 : Nat) (rowL (List.replicate (32 : Nat) (7 : Nat)))) (5 : Int) (datL (AV.dat (3 : Nat) false (1 : Nat) (fun (i : Nat) => (nthD [(AV.v (Value.int IntKind.u8 (97 : Int))), (AV.v (Value.int IntKind.u8 (98 : Int))), (AV.v (Value.int IntKind.u8 (99 : Int)))] ((0 : Nat) + i) (AV.v (Value.tuple (List.toArray []))))))))))))] ∧
 (Fun W.C W.P (12 : Nat) [(AV.arr (32 : Nat) (1 : Nat) (rowL (List.replicate (32 : Nat) (7 : Nat)))), (AV.v (Value.int IntKind.i64 (5 : Int))), (AV.dat (0 : Nat) true (0 : Nat) (fun (x : Nat) => (AV.v (Value.tuple (List.toArray [])))))] [] (AV.sl (0 : Nat) [] (0 : Nat) (32 : Nat) (32 : Nat) false (1 : Nat)) [((0 : Nat), (Blk.c (AV.arr (32 : Nat) (1 : Nat) (rowL (W.sealL (bytesL (32 : Nat) (rowL (List.replicate (32 : Nat) (7 : Nat)))) (5 : Int) (datL (AV.dat (0 : Nat) true (0 : Nat) (fun (x : Nat) => (AV.v (Value.tuple (List.toArray [])))))))))))] ∧
 (∃ (S2 : St), Ent W.C (60 : Nat) [] K (St.mk [((0 : Nat), (AV.v (Value.bool false))), ((1 : Nat), (AV.ptr (1 : Nat) [])), ((2 : Nat), (AV.sl (8 : Nat) [] (0 : Nat) (35 : Nat) (35 : Nat) false (1 : Nat))), ((3 : Nat), (AV.sl (10 : Nat) [] (0 : Nat) (32 : Nat) (32 : Nat) false (1 : Nat)))] [((1 : Nat), (Blk.c (AV.arr (32 : Nat) (1 : Nat) (rowL (List.replicate (32 : Nat) (7 : Nat)))))), ((8 : Nat), (Blk.c (AV.arr (35 : Nat) (1 : Nat) (rowL (W.sealL (bytesL (32 : Nat) (rowL (List.replicate (32 : Nat) (7 : Nat)))) (5 : Int) (datL (AV.dat (3 : Nat) false (1 : Nat) (fun (i : Nat) => (nthD [(AV.v (Value.int IntKind.u8 (97 : Int))), (AV.v (Value.int IntKind.u8 (98 : Int))), (AV.v (Value.int IntKind.u8 (99 : Int)))] ((0 : Nat) + i) (AV.v (Value.tuple (List.toArray [])))))))))))), ((10 : Nat), (Blk.c (AV.arr (32 : Nat) (1 : Nat) (rowL (W.sealL (bytesL (32 : Nat) (rowL (List.replicate (32 : Nat) (7 : Nat)))) (5 : Int) (datL (AV.dat (0 : Nat) true (0 : Nat) (fun (x : Nat) => (AV.v (Value.tuple (List.toArray [])))))))))))] [(10 : Nat), (8 : Nat), (6 : Nat), (1 : Nat)]) S2 ∧ Holds W.C W.P (60 : Nat) [] K Φ (cutAt W.C w_sanity b_sanity [1, 1, 1, 0, 0] S2 (after W.C w_sanity b_sanity [1, 1, 1, 0, 0] [] lf))))))))) := by kernel_rfl
theorem sanity_C3 (key c d : List Nat) (K : Nat) (Φ : Ex → St → Prop) :
  (Holds C P 60 [] K Φ (cutAt C w_sanity b_sanity [1, 1, 1, 0, 0] (S_sy3 key c d) (after C w_sanity b_sanity [1, 1, 1, 0, 0] [] lf))) =
  ((((((List.length c) : Nat) : Int) != (35 : Int)) = true → 
 (Φ Ex.ret (St.mk [((0 : Nat), (AV.v (Value.bool false))), ((1 : Nat), (AV.ptr (1 : Nat) [])), ((2 : Nat), (AV.dat (List.length c) false (1 : Nat) (rowL c))), ((3 : Nat), (AV.dat (List.length d) false (1 : Nat) (rowL d))), ((28 : Nat), (AV.v (Value.bool true)))] [((1 : Nat), (Blk.c (AV.arr (32 : Nat) (1 : Nat) (rowL key))))] [(1 : Nat)]))) ∧
 (((((List.length c) : Nat) : Int) != (35 : Int)) = false → 
 ((((((List.length d) : Nat) : Int) != (32 : Int)) = true → 
  (Φ Ex.ret (St.mk [((0 : Nat), (AV.v (Value.bool false))), ((1 : Nat), (AV.ptr (1 : Nat) [])), ((2 : Nat), (AV.dat (List.length c) false (1 : Nat) (rowL c))), ((3 : Nat), (AV.dat (List.length d) false (1 : Nat) (rowL d))), ((28 : Nat), (AV.v (Value.bool true)))] [((1 : Nat), (Blk.c (AV.arr (32 : Nat) (1 : Nat) (rowL key))))] [(1 : Nat)]))) ∧
  (((((List.length d) : Nat) : Int) != (32 : Int)) = false → 
  ((((0 : Int) ≤ (40 : Int)) ∧ ((40 : Int) ≤ (40 : Int))) ∧
   ((((40 : Int) ≤ (281474976710656 : Int)) ∧ ((40 : Int) ≤ (9223372036854775807 : Int))) ∧
   (Fun W.C W.P (20 : Nat) [(AV.dat (40 : Nat) false (1 : Nat) (fun (i : Nat) => (AV.v (Value.int IntKind.u8 (0 : Int)))))] [] (AV.v (Value.int IntKind.i64 (8 : Int))) [] ∧
   (True ∧
   ((false = true → 
   (Φ Ex.ret (St.mk [((0 : Nat), (AV.v (Value.bool false))), ((1 : Nat), (AV.ptr (1 : Nat) [])), ((2 : Nat), (AV.dat (List.length c) false (1 : Nat) (rowL c))), ((3 : Nat), (AV.dat (List.length d) false (1 : Nat) (rowL d))), ((28 : Nat), (AV.v (Value.bool true)))] [((1 : Nat), (Blk.c (AV.arr (32 : Nat) (1 : Nat) (rowL key)))), ((20 : Nat), (Blk.c (AV.arr (40 : Nat) (1 : Nat) (fun (x : Nat) => (AV.v (Value.int IntKind.u8 (0 : Int)))))))] [(20 : Nat), (1 : Nat)]))) ∧
   (false = false → 
   ((((0 : Int) ≤ (31 : Int)) ∧ ((31 : Int) ≤ (31 : Int))) ∧
    ((((31 : Int) ≤ (281474976710656 : Int)) ∧ ((31 : Int) ≤ (9223372036854775807 : Int))) ∧
    (Fun W.C W.P (20 : Nat) [(AV.dat (31 : Nat) false (1 : Nat) (fun (i : Nat) => (AV.v (Value.int IntKind.u8 (0 : Int)))))] [] (AV.v (Value.int IntKind.i64 (0 : Int))) [] ∧
    (True ∧
    ((false = true → 
    (Φ Ex.ret (St.mk [((0 : Nat), (AV.v (Value.bool false))), ((1 : Nat), (AV.ptr (1 : Nat) [])), ((2 : Nat), (AV.dat (List.length c) false (1 : Nat) (rowL c))), ((3 : Nat), (AV.dat (List.length d) false (1 : Nat) (rowL d))), ((28 : Nat), (AV.v (Value.bool true)))] [((1 : Nat), (Blk.c (AV.arr (32 : Nat) (1 : Nat) (rowL key)))), ((20 : Nat), (Blk.c (AV.arr (40 : Nat) (1 : Nat) (fun (x : Nat) => (AV.v (Value.int IntKind.u8 (0 : Int))))))), ((25 : Nat), (Blk.c (AV.arr (31 : Nat) (1 : Nat) (fun (x : Nat) => (AV.v (Value.int IntKind.u8 (0 : Int)))))))] [(25 : Nat), (20 : Nat), (1 : Nat)]))) ∧
    (false = false → 
    (Fun W.C W.P (14 : Nat) [(AV.arr (32 : Nat) (1 : Nat) (rowL key)), (AV.v (Value.int IntKind.i64 (5 : Int))), (AV.dat (List.length c) false (1 : Nat) (rowL c))] [] (AV.st [(AV.sl (0 : Nat) [] (0 : Nat) (List.length (W.openL (bytesL (32 : Nat) (rowL key)) (5 : Int) (datL (AV.dat (List.length c) false (1 : Nat) (rowL c))))) (List.length (W.openL (bytesL (32 : Nat) (rowL key)) (5 : Int) (datL (AV.dat (List.length c) false (1 : Nat) (rowL c))))) false (1 : Nat)), (AV.v (Value.int IntKind.i64 (W.openE (bytesL (32 : Nat) (rowL key)) (5 : Int) (datL (AV.dat (List.length c) false (1 : Nat) (rowL c))))))]) [((0 : Nat), (Blk.c (AV.arr (List.length (W.openL (bytesL (32 : Nat) (rowL key)) (5 : Int) (datL (AV.dat (List.length c) false (1 : Nat) (rowL c))))) (1 : Nat) (rowL (W.openL (bytesL (32 : Nat) (rowL key)) (5 : Int) (datL (AV.dat (List.length c) false (1 : Nat) (rowL c))))))))] ∧
     (((0 : Nat) < (3 : Nat)) ∧
     (Fun W.C W.P (13 : Nat) [(AV.st [(AV.dat (List.length (W.openL (bytesL (32 : Nat) (rowL key)) (5 : Int) (datL (AV.dat (List.length c) false (1 : Nat) (rowL c))))) false (1 : Nat) (fun (i : Nat) => (AV.v (Value.int IntKind.u8 (((List.getD (W.openL (bytesL (32 : Nat) (rowL key)) (5 : Int) (datL (AV.dat (List.length c) false (1 : Nat) (rowL c)))) ((0 : Nat) + i) (0 : Nat)) : Nat) : Int))))), (AV.v (Value.int IntKind.i64 (W.openE (bytesL (32 : Nat) (rowL key)) (5 : Int) (datL (AV.dat (List.length c) false (1 : Nat) (rowL c))))))]), (AV.st [(AV.dat (3 : Nat) false (1 : Nat) (fun (i : Nat) => (nthD [(AV.v (Value.int IntKind.u8 (97 : Int))), (AV.v (Value.int IntKind.u8 (98 : Int))), (AV.v (Value.int IntKind.u8 (99 : Int)))] ((0 : Nat) + i) (AV.v (Value.tuple (List.toArray [])))))), (AV.v (Value.int IntKind.i64 (0 : Int)))])] [] (AV.sb ((decide ((datL (AV.dat (List.length (W.openL (bytesL (32 : Nat) (rowL key)) (5 : Int) (datL (AV.dat (List.length c) false (1 : Nat) (rowL c))))) false (1 : Nat) (fun (i : Nat) => (AV.v (Value.int IntKind.u8 (((List.getD (W.openL (bytesL (32 : Nat) (rowL key)) (5 : Int) (datL (AV.dat (List.length c) false (1 : Nat) (rowL c)))) ((0 : Nat) + i) (0 : Nat)) : Nat) : Int)))))) = (datL (AV.dat (3 : Nat) false (1 : Nat) (fun (i : Nat) => (nthD [(AV.v (Value.int IntKind.u8 (97 : Int))), (AV.v (Value.int IntKind.u8 (98 : Int))), (AV.v (Value.int IntKind.u8 (99 : Int)))] ((0 : Nat) + i) (AV.v (Value.tuple (List.toArray []))))))))) && (decide ((W.openE (bytesL (32 : Nat) (rowL key)) (5 : Int) (datL (AV.dat (List.length c) false (1 : Nat) (rowL c)))) = (0 : Int))))) [] ∧
     (True ∧
     ((((decide ((datL (AV.dat (List.length (W.openL (bytesL (32 : Nat) (rowL key)) (5 : Int) (datL (AV.dat (List.length c) false (1 : Nat) (rowL c))))) false (1 : Nat) (fun (i : Nat) => (AV.v (Value.int IntKind.u8 (((List.getD (W.openL (bytesL (32 : Nat) (rowL key)) (5 : Int) (datL (AV.dat (List.length c) false (1 : Nat) (rowL c)))) ((0 : Nat) + i) (0 : Nat)) : Nat) : Int)))))) = (datL (AV.dat (3 : Nat) false (1 : Nat) (fun (i : Nat) => (nthD [(AV.v (Value.int IntKind.u8 (97 : Int))), (AV.v (Value.int IntKind.u8 (98 : Int))), (AV.v (Value.int IntKind.u8 (99 : Int)))] ((0 : Nat) + i) (AV.v (Value.tuple (List.toArray []))))))))) && (decide ((W.openE (bytesL (32 : Nat) (rowL key)) (5 : Int) (datL (AV.dat (List.length c) false (1 : Nat) (rowL c)))) = (0 : Int)))) = true → 
     (Fun W.C W.P (14 : Nat) [(AV.arr (32 : Nat) (1 : Nat) (rowL key)), (AV.v (Value.int IntKind.i64 (5 : Int))), (AV.dat (List.length d) false (1 : Nat) (rowL d))] [] (AV.st [(AV.sl (0 : Nat) [] (0 : Nat) (List.length (W.openL (bytesL (32 : Nat) (rowL key)) (5 : Int) (datL (AV.dat (List.length d) false (1 : Nat) (rowL d))))) (List.length (W.openL (bytesL (32 : Nat) (rowL key)) (5 : Int) (datL (AV.dat (List.length d) false (1 : Nat) (rowL d))))) false (1 : Nat)), (AV.v (Value.int IntKind.i64 (W.openE (bytesL (32 : Nat) (rowL key)) (5 : Int) (datL (AV.dat (List.length d) false (1 : Nat) (rowL d))))))]) [((0 : Nat), (Blk.c (AV.arr (List.length (W.openL (bytesL (32 : Nat) (rowL key)) (5 : Int) (datL (AV.dat (List.length d) false (1 : Nat) (rowL d))))) (1 : Nat) (rowL (W.openL (bytesL (32 : Nat) (rowL key)) (5 : Int) (datL (AV.dat (List.length d) false (1 : Nat) (rowL d))))))))] ∧
      (Fun W.C W.P (13 : Nat) [(AV.st [(AV.dat (List.length (W.openL (bytesL (32 : Nat) (rowL key)) (5 : Int) (datL (AV.dat (List.length d) false (1 : Nat) (rowL d))))) false (1 : Nat) (fun (i : Nat) => (AV.v (Value.int IntKind.u8 (((List.getD (W.openL (bytesL (32 : Nat) (rowL key)) (5 : Int) (datL (AV.dat (List.length d) false (1 : Nat) (rowL d)))) ((0 : Nat) + i) (0 : Nat)) : Nat) : Int))))), (AV.v (Value.int IntKind.i64 (W.openE (bytesL (32 : Nat) (rowL key)) (5 : Int) (datL (AV.dat (List.length d) false (1 : Nat) (rowL d))))))]), (AV.st [(AV.dat (0 : Nat) true (0 : Nat) (fun (x : Nat) => (AV.v (Value.tuple (List.toArray []))))), (AV.v (Value.int IntKind.i64 (0 : Int)))])] [] (AV.sb ((decide ((datL (AV.dat (List.length (W.openL (bytesL (32 : Nat) (rowL key)) (5 : Int) (datL (AV.dat (List.length d) false (1 : Nat) (rowL d))))) false (1 : Nat) (fun (i : Nat) => (AV.v (Value.int IntKind.u8 (((List.getD (W.openL (bytesL (32 : Nat) (rowL key)) (5 : Int) (datL (AV.dat (List.length d) false (1 : Nat) (rowL d)))) ((0 : Nat) + i) (0 : Nat)) : Nat) : Int)))))) = (datL (AV.dat (0 : Nat) true (0 : Nat) (fun (x : Nat) => (AV.v (Value.tuple (List.toArray [])))))))) && (decide ((W.openE (bytesL (32 : Nat) (rowL key)) (5 : Int) (datL (AV.dat (List.length d) false (1 : Nat) (rowL d)))) = (0 : Int))))) [] ∧
      (True ∧
      ((((decide ((datL (AV.dat (List.length (W.openL (bytesL (32 : Nat) (rowL key)) (5 : Int) (datL (AV.dat (List.length d) false (1 : Nat) (rowL d))))) false (1 : Nat) (fun (i : Nat) => (AV.v (Value.int IntKind.u8 (((List.getD (W.openL (bytesL (32 : Nat) (rowL key)) (5 : Int) (datL (AV.dat (List.length d) false (1 : Nat) (rowL d)))) ((0 : Nat) + i) (0 : Nat)) : Nat) : Int)))))) = (datL (AV.dat (0 : Nat) true (0 : Nat) (fun (x : Nat) => (AV.v (Value.tuple (List.toArray [])))))))) && (decide ((W.openE (bytesL (32 : Nat) (rowL key)) (5 : Int) (datL (AV.dat (List.length d) false (1 : Nat) (rowL d)))) = (0 : Int)))) = true → 
      ((((0 : Int) ≤ (31 : Int)) ∧ ((31 : Int) ≤ (31 : Int))) ∧
       ((((31 : Int) ≤ (281474976710656 : Int)) ∧ ((31 : Int) ≤ (9223372036854775807 : Int))) ∧
       (Fun W.C W.P (14 : Nat) [(AV.arr (32 : Nat) (1 : Nat) (rowL key)), (AV.v (Value.int IntKind.i64 (5 : Int))), (AV.dat (31 : Nat) false (1 : Nat) (fun (i : Nat) => (AV.v (Value.int IntKind.u8 (0 : Int)))))] [] (AV.st [(AV.sl (0 : Nat) [] (0 : Nat) (List.length (W.openL (bytesL (32 : Nat) (rowL key)) (5 : Int) (datL (AV.dat (31 : Nat) false (1 : Nat) (fun (i : Nat) => (AV.v (Value.int IntKind.u8 (0 : Int)))))))) (List.length (W.openL (bytesL (32 : Nat) (rowL key)) (5 : Int) (datL (AV.dat (31 : Nat) false (1 : Nat) (fun (i : Nat) => (AV.v (Value.int IntKind.u8 (0 : Int)))))))) false (1 : Nat)), (AV.v (Value.int IntKind.i64 (W.openE (bytesL (32 : Nat) (rowL key)) (5 : Int) (datL (AV.dat (31 : Nat) false (1 : Nat) (fun (i : Nat) => (AV.v (Value.int IntKind.u8 (0 : Int)))))))))]) [((0 : Nat), (Blk.c (AV.arr (List.length (W.openL (bytesL (32 : Nat) (rowL key)) (5 : Int) (datL (AV.dat (31 : Nat) false (1 : Nat) (fun (i : Nat) => (AV.v (Value.int IntKind.u8 (0 : Int)))))))) (1 : Nat) (rowL (W.openL (bytesL (32 : Nat) (rowL key)) (5 : Int) (datL (AV.dat (31 : Nat) false (1 : Nat) (fun (i : Nat) => (AV.v (Value.int IntKind.u8 (0 : Int)))))))))))] ∧
       ((((W.openE (bytesL (32 : Nat) (rowL key)) (5 : Int) (datL (AV.dat (31 : Nat) false (1 : Nat) (fun (i : Nat) => (AV.v (Value.int IntKind.u8 (0 : Int))))))) == (50 : Int)) = true → 
       ((∀ (i : Nat), ((i < (List.length c)) → (((0 : Int) ≤ (((List.getD c i (0 : Nat)) : Nat) : Int)) ∧ ((((List.getD c i (0 : Nat)) : Nat) : Int) < (256 : Int))))) ∧
        (((0 : Nat) < (3 : Nat)) ∧
        (Fun W.C W.P (19 : Nat) [(AV.arr (32 : Nat) (1 : Nat) (rowL key)), (AV.v (Value.int IntKind.i64 (5 : Int))), (AV.dat (3 : Nat) false (1 : Nat) (fun (i : Nat) => (nthD [(AV.v (Value.int IntKind.u8 (97 : Int))), (AV.v (Value.int IntKind.u8 (98 : Int))), (AV.v (Value.int IntKind.u8 (99 : Int)))] ((0 : Nat) + i) (AV.v (Value.tuple (List.toArray []))))))] [] (AV.sl (0 : Nat) [] (0 : Nat) (List.length (W.sealL (bytesL (32 : Nat) (rowL key)) (5 : Int) (datL (AV.dat (3 : Nat) false (1 : Nat) (fun (i : Nat) => (nthD [(AV.v (Value.int IntKind.u8 (97 : Int))), (AV.v (Value.int IntKind.u8 (98 : Int))), (AV.v (Value.int IntKind.u8 (99 : Int)))] ((0 : Nat) + i) (AV.v (Value.tuple (List.toArray []))))))))) (List.length (W.sealL (bytesL (32 : Nat) (rowL key)) (5 : Int) (datL (AV.dat (3 : Nat) false (1 : Nat) (fun (i : Nat) => (nthD [(AV.v (Value.int IntKind.u8 (97 : Int))), (AV.v (Value.int IntKind.u8 (98 : Int))), (AV.v (Value.int IntKind.u8 (99 : Int)))] ((0 : Nat) + i) (AV.v (Value.tuple (List.toArray []))))))))) false (1 : Nat)) [((0 : Nat), (Blk.c (AV.arr (List.length (W.sealL (bytesL (32 : Nat) (rowL key)) (5 : Int) (datL (AV.dat (3 : Nat) false (1 : Nat) (fun (i : Nat) => (nthD [(AV.v (Value.int IntKind.u8 (97 : Int))), (AV.v (Value.int IntKind.u8 (98 : Int))), (AV.v (Value.int IntKind.u8 (99 : Int)))] ((0 : Nat) + i) (AV.v (Value.tuple (List.toArray []))))))))) (1 : Nat) (rowL (W.sealL (bytesL (32 : Nat) (rowL key)) (5 : Int) (datL (AV.dat (3 : Nat) false (1 : Nat) (fun (i : Nat) => (nthD [(AV.v (Value.int IntKind.u8 (97 : Int))), (AV.v (Value.int IntKind.u8 (98 : Int))), (AV.v (Value.int IntKind.u8 (99 : Int)))] ((0 : Nat) + i) (AV.v (Value.tuple (List.toArray []))))))))))))] ∧
        ((∀ (i : Nat), ((i < (List.length (W.sealL (bytesL (32 : Nat) (rowL key)) (5 : Int) (datL (AV.dat (3 : Nat) false (1 : Nat) (fun (i1 : Nat) => (nthD [(AV.v (Value.int IntKind.u8 (97 : Int))), (AV.v (Value.int IntKind.u8 (98 : Int))), (AV.v (Value.int IntKind.u8 (99 : Int)))] ((0 : Nat) + i1) (AV.v (Value.tuple (List.toArray [])))))))))) → (((0 : Int) ≤ (((List.getD (W.sealL (bytesL (32 : Nat) (rowL key)) (5 : Int) (datL (AV.dat (3 : Nat) false (1 : Nat) (fun (i1 : Nat) => (nthD [(AV.v (Value.int IntKind.u8 (97 : Int))), (AV.v (Value.int IntKind.u8 (98 : Int))), (AV.v (Value.int IntKind.u8 (99 : Int)))] ((0 : Nat) + i1) (AV.v (Value.tuple (List.toArray [])))))))) ((0 : Nat) + i) (0 : Nat)) : Nat) : Int)) ∧ ((((List.getD (W.sealL (bytesL (32 : Nat) (rowL key)) (5 : Int) (datL (AV.dat (3 : Nat) false (1 : Nat) (fun (i1 : Nat) => (nthD [(AV.v (Value.int IntKind.u8 (97 : Int))), (AV.v (Value.int IntKind.u8 (98 : Int))), (AV.v (Value.int IntKind.u8 (99 : Int)))] ((0 : Nat) + i1) (AV.v (Value.tuple (List.toArray [])))))))) ((0 : Nat) + i) (0 : Nat)) : Nat) : Int) < (256 : Int))))) ∧
        (Φ Ex.ret (St.mk [((0 : Nat), (AV.sb ((ByteArray.toList (bytesOf (List.length c) (rowL c))) == (ByteArray.toList (bytesOf (List.length (W.sealL (bytesL (32 : Nat) (rowL key)) (5 : Int) (datL (AV.dat (3 : Nat) false (1 : Nat) (fun (i : Nat) => (nthD [(AV.v (Value.int IntKind.u8 (97 : Int))), (AV.v (Value.int IntKind.u8 (98 : Int))), (AV.v (Value.int IntKind.u8 (99 : Int)))] ((0 : Nat) + i) (AV.v (Value.tuple (List.toArray []))))))))) (fun (i : Nat) => (AV.v (Value.int IntKind.u8 (((List.getD (W.sealL (bytesL (32 : Nat) (rowL key)) (5 : Int) (datL (AV.dat (3 : Nat) false (1 : Nat) (fun (i1 : Nat) => (nthD [(AV.v (Value.int IntKind.u8 (97 : Int))), (AV.v (Value.int IntKind.u8 (98 : Int))), (AV.v (Value.int IntKind.u8 (99 : Int)))] ((0 : Nat) + i1) (AV.v (Value.tuple (List.toArray [])))))))) ((0 : Nat) + i) (0 : Nat)) : Nat) : Int))))))))), ((1 : Nat), (AV.ptr (1 : Nat) [])), ((2 : Nat), (AV.dat (List.length c) false (1 : Nat) (rowL c))), ((3 : Nat), (AV.dat (List.length d) false (1 : Nat) (rowL d))), ((28 : Nat), (AV.v (Value.bool false)))] [((1 : Nat), (Blk.c (AV.arr (32 : Nat) (1 : Nat) (rowL key)))), ((20 : Nat), (Blk.c (AV.arr (40 : Nat) (1 : Nat) (fun (x : Nat) => (AV.v (Value.int IntKind.u8 (0 : Int))))))), ((25 : Nat), (Blk.c (AV.arr (31 : Nat) (1 : Nat) (fun (x : Nat) => (AV.v (Value.int IntKind.u8 (0 : Int))))))), ((31 : Nat), (Blk.c (AV.arr (List.length (W.openL (bytesL (32 : Nat) (rowL key)) (5 : Int) (datL (AV.dat (List.length c) false (1 : Nat) (rowL c))))) (1 : Nat) (rowL (W.openL (bytesL (32 : Nat) (rowL key)) (5 : Int) (datL (AV.dat (List.length c) false (1 : Nat) (rowL c)))))))), ((32 : Nat), (Blk.c (AV.st [(AV.v (Value.int IntKind.u8 (97 : Int))), (AV.v (Value.int IntKind.u8 (98 : Int))), (AV.v (Value.int IntKind.u8 (99 : Int)))]))), ((39 : Nat), (Blk.c (AV.arr (List.length (W.openL (bytesL (32 : Nat) (rowL key)) (5 : Int) (datL (AV.dat (List.length d) false (1 : Nat) (rowL d))))) (1 : Nat) (rowL (W.openL (bytesL (32 : Nat) (rowL key)) (5 : Int) (datL (AV.dat (List.length d) false (1 : Nat) (rowL d)))))))), ((46 : Nat), (Blk.c (AV.arr (List.length (W.openL (bytesL (32 : Nat) (rowL key)) (5 : Int) (datL (AV.dat (31 : Nat) false (1 : Nat) (fun (i : Nat) => (AV.v (Value.int IntKind.u8 (0 : Int)))))))) (1 : Nat) (rowL (W.openL (bytesL (32 : Nat) (rowL key)) (5 : Int) (datL (AV.dat (31 : Nat) false (1 : Nat) (fun (i : Nat) => (AV.v (Value.int IntKind.u8 (0 : Int))))))))))), ((56 : Nat), (Blk.c (AV.arr (List.length (W.sealL (bytesL (32 : Nat) (rowL key)) (5 : Int) (datL (AV.dat (3 : Nat) false (1 : Nat) (fun (i : Nat) => (nthD [(AV.v (Value.int IntKind.u8 (97 : Int))), (AV.v (Value.int IntKind.u8 (98 : Int))), (AV.v (Value.int IntKind.u8 (99 : Int)))] ((0 : Nat) + i) (AV.v (Value.tuple (List.toArray []))))))))) (1 : Nat) (rowL (W.sealL (bytesL (32 : Nat) (rowL key)) (5 : Int) (datL (AV.dat (3 : Nat) false (1 : Nat) (fun (i : Nat) => (nthD [(AV.v (Value.int IntKind.u8 (97 : Int))), (AV.v (Value.int IntKind.u8 (98 : Int))), (AV.v (Value.int IntKind.u8 (99 : Int)))] ((0 : Nat) + i) (AV.v (Value.tuple (List.toArray []))))))))))))] [(56 : Nat), (54 : Nat), (46 : Nat), (45 : Nat), (39 : Nat), (32 : Nat), (31 : Nat), (25 : Nat), (20 : Nat), (1 : Nat)]))))))) ∧
       (((W.openE (bytesL (32 : Nat) (rowL key)) (5 : Int) (datL (AV.dat (31 : Nat) false (1 : Nat) (fun (i : Nat) => (AV.v (Value.int IntKind.u8 (0 : Int))))))) == (50 : Int)) = false → 
       (Φ Ex.ret (St.mk [((0 : Nat), (AV.v (Value.bool false))), ((1 : Nat), (AV.ptr (1 : Nat) [])), ((2 : Nat), (AV.dat (List.length c) false (1 : Nat) (rowL c))), ((3 : Nat), (AV.dat (List.length d) false (1 : Nat) (rowL d))), ((28 : Nat), (AV.v (Value.bool false)))] [((1 : Nat), (Blk.c (AV.arr (32 : Nat) (1 : Nat) (rowL key)))), ((20 : Nat), (Blk.c (AV.arr (40 : Nat) (1 : Nat) (fun (x : Nat) => (AV.v (Value.int IntKind.u8 (0 : Int))))))), ((25 : Nat), (Blk.c (AV.arr (31 : Nat) (1 : Nat) (fun (x : Nat) => (AV.v (Value.int IntKind.u8 (0 : Int))))))), ((31 : Nat), (Blk.c (AV.arr (List.length (W.openL (bytesL (32 : Nat) (rowL key)) (5 : Int) (datL (AV.dat (List.length c) false (1 : Nat) (rowL c))))) (1 : Nat) (rowL (W.openL (bytesL (32 : Nat) (rowL key)) (5 : Int) (datL (AV.dat (List.length c) false (1 : Nat) (rowL c)))))))), ((32 : Nat), (Blk.c (AV.st [(AV.v (Value.int IntKind.u8 (97 : Int))), (AV.v (Value.int IntKind.u8 (98 : Int))), (AV.v (Value.int IntKind.u8 (99 : Int)))]))), ((39 : Nat), (Blk.c (AV.arr (List.length (W.openL (bytesL (32 : Nat) (rowL key)) (5 : Int) (datL (AV.dat (List.length d) false (1 : Nat) (rowL d))))) (1 : Nat) (rowL (W.openL (bytesL (32 : Nat) (rowL key)) (5 : Int) (datL (AV.dat (List.length d) false (1 : Nat) (rowL d)))))))), ((46 : Nat), (Blk.c (AV.arr (List.length (W.openL (bytesL (32 : Nat) (rowL key)) (5 : Int) (datL (AV.dat (31 : Nat) false (1 : Nat) (fun (i : Nat) => (AV.v (Value.int IntKind.u8 (0 : Int)))))))) (1 : Nat) (rowL (W.openL (bytesL (32 : Nat) (rowL key)) (5 : Int) (datL (AV.dat (31 : Nat) false (1 : Nat) (fun (i : Nat) => (AV.v (Value.int IntKind.u8 (0 : Int)))))))))))] [(46 : Nat), (45 : Nat), (39 : Nat), (32 : Nat), (31 : Nat), (25 : Nat), (20 : Nat), (1 : Nat)])))))))) ∧
      (((decide ((datL (AV.dat (List.length (W.openL (bytesL (32 : Nat) (rowL key)) (5 : Int) (datL (AV.dat (List.length d) false (1 : Nat) (rowL d))))) false (1 : Nat) (fun (i : Nat) => (AV.v (Value.int IntKind.u8 (((List.getD (W.openL (bytesL (32 : Nat) (rowL key)) (5 : Int) (datL (AV.dat (List.length d) false (1 : Nat) (rowL d)))) ((0 : Nat) + i) (0 : Nat)) : Nat) : Int)))))) = (datL (AV.dat (0 : Nat) true (0 : Nat) (fun (x : Nat) => (AV.v (Value.tuple (List.toArray [])))))))) && (decide ((W.openE (bytesL (32 : Nat) (rowL key)) (5 : Int) (datL (AV.dat (List.length d) false (1 : Nat) (rowL d)))) = (0 : Int)))) = false → 
      (Φ Ex.ret (St.mk [((0 : Nat), (AV.v (Value.bool false))), ((1 : Nat), (AV.ptr (1 : Nat) [])), ((2 : Nat), (AV.dat (List.length c) false (1 : Nat) (rowL c))), ((3 : Nat), (AV.dat (List.length d) false (1 : Nat) (rowL d))), ((28 : Nat), (AV.v (Value.bool false)))] [((1 : Nat), (Blk.c (AV.arr (32 : Nat) (1 : Nat) (rowL key)))), ((20 : Nat), (Blk.c (AV.arr (40 : Nat) (1 : Nat) (fun (x : Nat) => (AV.v (Value.int IntKind.u8 (0 : Int))))))), ((25 : Nat), (Blk.c (AV.arr (31 : Nat) (1 : Nat) (fun (x : Nat) => (AV.v (Value.int IntKind.u8 (0 : Int))))))), ((31 : Nat), (Blk.c (AV.arr (List.length (W.openL (bytesL (32 : Nat) (rowL key)) (5 : Int) (datL (AV.dat (List.length c) false (1 : Nat) (rowL c))))) (1 : Nat) (rowL (W.openL (bytesL (32 : Nat) (rowL key)) (5 : Int) (datL (AV.dat (List.length c) false (1 : Nat) (rowL c)))))))), ((32 : Nat), (Blk.c (AV.st [(AV.v (Value.int IntKind.u8 (97 : Int))), (AV.v (Value.int IntKind.u8 (98 : Int))), (AV.v (Value.int IntKind.u8 (99 : Int)))]))), ((39 : Nat), (Blk.c (AV.arr (List.length (W.openL (bytesL (32 : Nat) (rowL key)) (5 : Int) (datL (AV.dat (List.length d) false (1 : Nat) (rowL d))))) (1 : Nat) (rowL (W.openL (bytesL (32 : Nat) (rowL key)) (5 : Int) (datL (AV.dat (List.length d) false (1 : Nat) (rowL d))))))))] [(39 : Nat), (32 : Nat), (31 : Nat), (25 : Nat), (20 : Nat), (1 : Nat)])))))))) ∧
     (((decide ((datL (AV.dat (List.length (W.openL (bytesL (32 : Nat) (rowL key)) (5 : Int) (datL (AV.dat (List.length c) false (1 : Nat) (rowL c))))) false (1 : Nat) (fun (i : Nat) => (AV.v (Value.int IntKind.u8 (((List.getD (W.openL (bytesL (32 : Nat) (rowL key)) (5 : Int) (datL (AV.dat (List.length c) false (1 : Nat) (rowL c)))) ((0 : Nat) + i) (0 : Nat)) : Nat) : Int)))))) = (datL (AV.dat (3 : Nat) false (1 : Nat) (fun (i : Nat) => (nthD [(AV.v (Value.int IntKind.u8 (97 : Int))), (AV.v (Value.int IntKind.u8 (98 : Int))), (AV.v (Value.int IntKind.u8 (99 : Int)))] ((0 : Nat) + i) (AV.v (Value.tuple (List.toArray []))))))))) && (decide ((W.openE (bytesL (32 : Nat) (rowL key)) (5 : Int) (datL (AV.dat (List.length c) false (1 : Nat) (rowL c)))) = (0 : Int)))) = false → 
     (Φ Ex.ret (St.mk [((0 : Nat), (AV.v (Value.bool false))), ((1 : Nat), (AV.ptr (1 : Nat) [])), ((2 : Nat), (AV.dat (List.length c) false (1 : Nat) (rowL c))), ((3 : Nat), (AV.dat (List.length d) false (1 : Nat) (rowL d))), ((28 : Nat), (AV.v (Value.bool false)))] [((1 : Nat), (Blk.c (AV.arr (32 : Nat) (1 : Nat) (rowL key)))), ((20 : Nat), (Blk.c (AV.arr (40 : Nat) (1 : Nat) (fun (x : Nat) => (AV.v (Value.int IntKind.u8 (0 : Int))))))), ((25 : Nat), (Blk.c (AV.arr (31 : Nat) (1 : Nat) (fun (x : Nat) => (AV.v (Value.int IntKind.u8 (0 : Int))))))), ((31 : Nat), (Blk.c (AV.arr (List.length (W.openL (bytesL (32 : Nat) (rowL key)) (5 : Int) (datL (AV.dat (List.length c) false (1 : Nat) (rowL c))))) (1 : Nat) (rowL (W.openL (bytesL (32 : Nat) (rowL key)) (5 : Int) (datL (AV.dat (List.length c) false (1 : Nat) (rowL c)))))))), ((32 : Nat), (Blk.c (AV.st [(AV.v (Value.int IntKind.u8 (97 : Int))), (AV.v (Value.int IntKind.u8 (98 : Int))), (AV.v (Value.int IntKind.u8 (99 : Int)))])))] [(32 : Nat), (31 : Nat), (25 : Nat), (20 : Nat), (1 : Nat)])))))))))))))))))))))))) := by kernel_rfl

theorem list_ext0 {l m : List Nat} (hl : l.length = m.length) (h : ∀ i, i < m.length → l.getD i 0 = m.getD i 0) : l = m := by
  apply List.ext_getElem hl
  intro i h1 h2
  have := h i h2
  simpa [List.getD_eq_getElem?_getD, h1, h2] using this
theorem mix_mix (key : List Nat) (id : Int) (b : List Nat) : mixL key id (mixL key id b) = b := by
  refine list_ext0 (by rw [mixL_len, mixL_len]) fun i hi => ?_
  rw [mixL_getD _ _ _ (by rw [mixL_len]; exact hi), mixL_getD _ _ _ hi, mixL_len, Nat.xor_assoc, Nat.xor_self, Nat.xor_zero]
theorem cut_seal (key : List Nat) (id : Int) (b : List Nat) : cutL (sealL key id b) = mixL key id b := by
  unfold cutL
  rw [sealL_len, Nat.add_sub_cancel, ← mixL_len key id b]
  unfold sealL
  rw [mixL_len, ← mixL_len key id b, List.take_left']
  rfl
theorem drop_seal (key : List Nat) (id : Int) (b : List Nat) : (sealL key id b).drop b.length = tagL key id (mixL key id b) := by
  unfold sealL
  rw [← mixL_len key id b, List.drop_left']
  rfl
theorem right_seal (key : List Nat) (id : Int) (b : List Nat) : rightB key id (sealL key id b) = true := by
  unfold rightB
  rw [cut_seal, sealL_len, Nat.add_sub_cancel, drop_seal, decide_eq_true (by omega), decide_eq_true rfl]
  rfl
theorem open_seal (key : List Nat) (id : Int) (b : List Nat) : openL key id (sealL key id b) = b ∧ openE key id (sealL key id b) = 0 := by
  have := right_yes (right_seal key id b)
  rw [cut_seal, mix_mix] at this
  exact this
theorem right_few {key : List Nat} {id : Int} {c : List Nat} (h : c.length < 32) : rightB key id c = false := by
  unfold rightB
  rw [decide_eq_false (by omega)]
  rfl
theorem tt_then {b : Bool} {p q : Prop} (h : b = true) (hp : p) : (b = true → p) ∧ (b = false → q) := ⟨fun _ => hp, fun hf => by rw [h] at hf; cases hf⟩
theorem ff_then {b : Bool} {p q : Prop} (h : b = false) (hq : q) : (b = true → p) ∧ (b = false → q) := ⟨fun hf => (by rw [h] at hf; cases hf), fun _ => hq⟩
theorem sanity_fun : Fun C P F_sanity [] [] (.sb true) [] := by
  refine in_sanity (W := w_sanity) rfl 0 (by simp) rfl (fun id h => absurd rfl h) ?_
  have habc : B8 3 (fun i => nthD [AV.v (.int .u8 (97 : Int)), AV.v (.int .u8 (98 : Int)), AV.v (.int .u8 (99 : Int))] (0 + i) (.v (.tuple (List.toArray [])))) := fun i hi => by
    match i, hi with
    | 0, _ => exact ⟨rfl, by decide⟩
    | 1, _ => exact ⟨rfl, by decide⟩
    | 2, _ => exact ⟨rfl, by decide⟩
  have h0 : ∀ f, B8 0 f := fun f i hi => absurd hi (Nat.not_lt_zero i)
  have h5 : I64 5 := by unfold I64; decide
  obtain ⟨K7, hK⟩ : ∃ K7, K7 = List.replicate 32 7 := ⟨_, rfl⟩
  have hk : K7.length = 32 := by rw [hK]; rfl
  have hs : Small K7 := fun x hx => by rw [hK] at hx; have := List.eq_of_mem_replicate hx; omega
  have hz : ∀ n, B8 n (fun _ => AV.v (.int .u8 (0 : Int))) := fun n i _ => ⟨rfl, by show 0 < 256; decide⟩
  have s1 := seal_call (ex := false) (e := 1) (B8_row hs 32) h5 habc (.inr rfl) (by decide)
  have s2 := seal_call (ex := true) (e := 0) (B8_row hs 32) h5 (h0 (fun _ => .v (.tuple (List.toArray [])))) (.inl rfl) (by decide)
  have e1 : (sealL (bytesL 32 (rowL K7)) 5 (bytesL 3 (fun i => nthD [AV.v (.int .u8 (97 : Int)), AV.v (.int .u8 (98 : Int)), AV.v (.int .u8 (99 : Int))] (0 + i) (.v (.tuple (List.toArray [])))))).length = 35 := by rw [sealL_len]; rfl
  have e2 : (sealL (bytesL 32 (rowL K7)) 5 (bytesL 0 (fun _ => .v (.tuple (List.toArray []))))).length = 32 := by rw [sealL_len]; rfl
  rw [show ownB _ = (_, _) from rfl, e1] at s1
  rw [show ownB _ = (_, _) from rfl, e2] at s2
  refine of_eq (sanity_A 0 _) ?_
  rw [← hK]
  refine ⟨hK ▸ rkey_fun 7, fun _ _ => trivial, ⟨rfl, rfl, fun _ _ => ⟨rfl, rfl⟩⟩, (by first | omega | decide | (unfold I64; omega)), s1, s2, cut_ok (S2 := S_sy3 K7 (sealL K7 5 [97, 98, 99]) (sealL K7 5 [])) (Ent.trans (ent_freeze _ [8, 10]) (ent_of [(1, 1)] rfl (tm_cons rfl (sm_ptr rfl) (tm_cons rfl (sm_dat' (by rw [sealL_len]; rfl) (by simp) fun i hi => ?_) (tm_cons rfl (sm_dat' (by rw [sealL_len]; rfl) (by simp) fun i hi => ?_) tm_nil))) (hp_cons rfl rfl (sm_same rfl) hp_nil))) ?_⟩
  · show rowL (sealL (bytesL 32 (rowL K7)) 5 [97, 98, 99]) (0 + i) = _
    rw [kyl hk, Nat.zero_add]
  · show rowL (sealL (bytesL 32 (rowL K7)) 5 []) (0 + i) = _
    rw [kyl hk, Nat.zero_add]
  have sc := small_sealL K7 5 (b := [97, 98, 99]) (small_cons (by decide) (small_cons (by decide) (small_cons (by decide) small_nil)))
  have sd := small_sealL K7 5 (b := []) small_nil
  have lc := sealL_len K7 5 [97, 98, 99]
  have ld := sealL_len K7 5 []
  have so := small_openL (bytesL 32 (rowL K7)) 5 (c := datL (.dat (sealL K7 5 [97, 98, 99]).length false 1 (rowL (sealL K7 5 [97, 98, 99])))) (by rw [datR]; exact sc)
  have sp := small_openL (bytesL 32 (rowL K7)) 5 (c := datL (.dat (sealL K7 5 []).length false 1 (rowL (sealL K7 5 [])))) (by rw [datR]; exact sd)
  have sr := small_sealL (bytesL 32 (rowL K7)) 5 (b := datL (.dat 3 false 1 (fun i => nthD [AV.v (.int .u8 (97 : Int)), AV.v (.int .u8 (98 : Int)), AV.v (.int .u8 (99 : Int))] (0 + i) (.v (.tuple (List.toArray [])))))) (small_bytesL habc)
  refine of_eq (sanity_C3 K7 _ _ 0 _) (bne_then (by rw [lc]; rfl) (bne_then (by rw [ld]; rfl) ?_))
  refine ⟨(by first | omega | decide | (unfold I64; omega)), (by first | omega | decide | (unfold I64; omega)), size_call (hz 40) (.inr rfl) (by decide), trivial, ff_then rfl ⟨(by first | omega | decide | (unfold I64; omega)), (by first | omega | decide | (unfold I64; omega)), size_call (hz 31) (.inr rfl) (by decide), trivial, ff_then rfl ?_⟩⟩
  refine ⟨opened_call (B8_row hs 32) h5 (B8_row sc _) (.inr rfl) (by rw [lc]; decide), (by first | omega | decide | (unfold I64; omega)), same_call (b8_get so _ 0) (.inr rfl) habc (.inr rfl), trivial, tt_then ?_ ?_⟩
  · rw [datL0, kyl hk, datR, (open_seal _ _ _).1, (open_seal _ _ _).2]; rfl
  refine ⟨opened_call (B8_row hs 32) h5 (B8_row sd _) (.inr rfl) (by rw [ld]; decide), same_call (b8_get sp _ 0) (.inr rfl) (h0 _) (.inl rfl), trivial, tt_then ?_ ?_⟩
  · rw [datL0, kyl hk, datR, (open_seal _ _ _).1, (open_seal _ _ _).2]; rfl
  refine ⟨(by first | omega | decide | (unfold I64; omega)), (by first | omega | decide | (unfold I64; omega)), opened_call (B8_row hs 32) h5 (hz 31) (.inr rfl) (by decide), tt_then ?_ ⟨fun i _ => u8_in (getD_small sc i), (by first | omega | decide | (unfold I64; omega)), rseal_call (B8_row hs 32) h5 habc (.inr rfl) (by decide), fun i _ => u8_in (getD_small sr _), post_tmp rfl (sm_sb ?_)⟩⟩
  · rw [(right_no (right_few (by show (bytesL 31 _).length < 32; rw [bytesL_len]; decide))).2]; rfl
  · exact str_eq (B8_row sc _) (b8_get sr _ 0) (by
      show datL (.dat _ false 1 _) = datL (.dat _ false 1 _)
      rw [datR, datL0, kyl hk]; rfl)
/-- One of two. -/
def two {α : Type} (a b : α) : Nat → α
  | 0 => a
  | _ + 1 => b
abbrev twoK (k0 k1 : List Nat) : AV := .arr 2 32 (fun i => kyA (two k0 k1 i))
abbrev twoI (i0 i1 : Int) : AV := .arr 2 1 (fun i => .i (two i0 i1 i))
abbrev twoD (e0 e1 : Bool) (b0 b1 : List Nat) : AV := .arr 2 1 (fun i => dB (two e0 e1 i) (two b0 b1 i))
section
variable {tt : Nat → TI}
theorem typed_twoK {n t s e : Nat} {x : AV} (hd : (tt t).d = .array 2 s false) (hz : (tt s).size = 32) (hds : (tt s).d = .array 32 e false) (he : (tt e).d = .int .u8) (hs : (tt e).size = 1) (h : Typed tt (n + 3) t x) :
    ∃ k0 k1, Small k0 ∧ k0.length = 32 ∧ Small k1 ∧ k1.length = 32 ∧ simR some x (twoK k0 k1) := by
  simp only [Typed, hd] at h
  obtain ⟨f, rfl, h2⟩ := h
  have each : ∀ i, i < 2 → ∃ l, Small l ∧ l.length = 32 ∧ ∃ g, f i = .arr 32 1 g ∧ ∀ j, j < 32 → g j = u8 (l.getD j 0) := fun i hi => by
    have h3 : Typed tt (n + 2) s (f i) := h2 i hi
    simp only [Typed, hds] at h3
    obtain ⟨g, e1, e2⟩ := h3
    have hb := typed_rowB he e2
    exact ⟨bytesL 32 g, small_bytesL hb, bytesL_len 32 g, g, by rw [e1, hs], fun j hj => row_bytesL hb j hj⟩
  obtain ⟨k0, a1, a2, g0, a3, a4⟩ := each 0 (by decide)
  obtain ⟨k1, b1, b2, g1, b3, b4⟩ := each 1 (by decide)
  refine ⟨k0, k1, a1, a2, b1, b2, .inr ⟨rfl, hz, fun i hi => .inr ?_⟩⟩
  match i, hi with
  | 0, _ => rw [a3]; exact ⟨rfl, rfl, fun j hj => .inl (a4 j hj)⟩
  | 1, _ => rw [b3]; exact ⟨rfl, rfl, fun j hj => .inl (b4 j hj)⟩
theorem typed_twoI {n t s : Nat} {x : AV} (hd : (tt t).d = .array 2 s false) (hz : (tt s).size = 1) (hds : (tt s).d = .int .i64) (h : Typed tt (n + 2) t x) :
    ∃ i0 i1, I64 i0 ∧ I64 i1 ∧ simR some x (twoI i0 i1) := by
  simp only [Typed, hd] at h
  obtain ⟨f, rfl, h2⟩ := h
  obtain ⟨i0, a1, a2⟩ := typed_i64 hds (h2 0 (by decide))
  obtain ⟨i1, b1, b2⟩ := typed_i64 hds (h2 1 (by decide))
  refine ⟨i0, i1, a2, b2, .inr ⟨rfl, hz, fun i hi => .inl ?_⟩⟩
  match i, hi with
  | 0, _ => exact a1
  | 1, _ => exact b1
theorem typed_twoD {n t s e : Nat} {x : AV} (hd : (tt t).d = .array 2 s false) (hz : (tt s).size = 1) (hds : (tt s).d = .slice e) (he : (tt e).d = .int .u8) (hs : (tt e).size = 1) (h : Typed tt (n + 3) t x) :
    ∃ e0 e1 b0 b1, Small b0 ∧ b0.length ≤ maxLen ∧ Small b1 ∧ b1.length ≤ maxLen ∧ simR some x (twoD e0 e1 b0 b1) := by
  simp only [Typed, hd] at h
  obtain ⟨f, rfl, h2⟩ := h
  have each : ∀ i, i < 2 → ∃ l ex, Small l ∧ l.length ≤ maxLen ∧ sim (fun _ => none) (f i) (dB ex l) := fun i hi => by
    have h3 : Typed tt (n + 2) s (f i) := h2 i hi
    simp only [Typed, hds] at h3
    obtain ⟨m, ex, g, e1, e2, e3⟩ := h3
    have hb := typed_rowB he e3
    exact ⟨bytesL m g, ex, small_bytesL hb, by rw [bytesL_len]; exact e2, by rw [e1]; exact ⟨(bytesL_len m g).symm, id, .inr hs, fun j hj => .inl (row_bytesL hb j hj)⟩⟩
  obtain ⟨b0, e0, a1, a2, a3⟩ := each 0 (by decide)
  obtain ⟨b1, e1, c1, c2, c3⟩ := each 1 (by decide)
  refine ⟨e0, e1, b0, b1, a1, a2, c1, c2, .inr ⟨rfl, hz, fun i hi => .inr ?_⟩⟩
  match i, hi with
  | 0, _ => exact a3
  | 1, _ => exact c3
end
end Go.Bu.W

