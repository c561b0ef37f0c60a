/- What the nets' functions do to how many packets there are. -/
import Derived.Test.YtjfggjlbnmdceaaK16
namespace Go.Bu.W
theorem same_self (n : Net) : sameB n n = true := by simp [sameB]
theorem z_net (f g : Nat → AV) (k : Int) {m : Nat → Option Nat} : simR m (.st [.dat 0 true 0 f, .dat 0 true 0 g, .i k]) (netD ⟨[], [], k⟩) :=
  sm_st ⟨.inr ⟨rfl, by simp, .inl rfl, fun i hi => absurd hi (Nat.not_lt_zero i)⟩, .inr ⟨rfl, by simp, .inl rfl, fun i hi => absurd hi (Nat.not_lt_zero i)⟩, sm_int rfl, trivial⟩
theorem add_len {n : Net} (h : addB n = true) (a b : Int) : (addN n a b).fly.length = n.fly.length + 1 := by unfold addN; rw [h]; simp
theorem send_0 {n : Net} {a b : Int} (h : sendE n a b = 0) : partsB a b = true ∧ addB n = true := by
  unfold sendE at h
  cases hp : partsB a b with
  | false => rw [hp] at h; simp at h
  | true =>
    rw [hp] at h
    cases hb : addB n with
    | false => rw [hb] at h; simp at h
    | true => exact ⟨rfl, rfl⟩
theorem send_len {n : Net} {a b : Int} (h : sendE n a b = 0) : (sendN n a b).fly.length = n.fly.length + 1 := by
  unfold sendN; rw [if_pos h]; exact add_len (send_0 h).2 a b
theorem send_no {n : Net} {a b : Int} (h : sendE n a b ≠ 0) : sendN n a b = n := by unfold sendN; rw [if_neg h]
theorem lose_0 {n : Net} {id : Int} (h : loseE n id = 0) : findB n id = true := by
  unfold loseE at h
  cases hf : findB n id with
  | true => rfl
  | false => rw [hf] at h; simp at h
theorem lose_no {n : Net} {id : Int} (h : loseE n id ≠ 0) : loseN n id = n := by
  unfold loseE at h; unfold loseN
  cases hf : findB n id with
  | true => rw [hf] at h; simp at h
  | false => rfl
theorem VN.lose_len {n : Net} (hv : VN n) {id : Int} (hf : findB n id = true) : (loseN n id).fly.length + 1 = n.fly.length := by
  have := (hv.find hf).1
  unfold loseN; rw [if_pos hf]
  show (n.fly.eraseIdx (findI n id)).length + 1 = _
  rw [List.length_eraseIdx, if_pos this]; omega
theorem take_0 {n : Net} {id : Int} (h : takeE n id = 0) : findB n id = true ∧ reachN n (pkN n id).2.1 (pkN n id).2.2 = true := by
  unfold takeE at h
  cases hf : findB n id with
  | false => rw [hf] at h; simp at h
  | true =>
    rw [hf] at h
    cases hr : reachN n (pkN n id).2.1 (pkN n id).2.2 with
    | false => rw [hr] at h; simp at h
    | true => exact ⟨rfl, rfl⟩
theorem VN.take_len {n : Net} (hv : VN n) {id : Int} (h : takeE n id = 0) : (takeN n id).fly.length + 1 = n.fly.length := by
  unfold takeN; rw [if_pos h]; exact hv.lose_len (take_0 h).1
theorem take_no {n : Net} {id : Int} (h : takeE n id ≠ 0) : takeN n id = n := by unfold takeN; rw [if_neg h]
theorem dbl_0 {n : Net} {id : Int} (h : dblE n id = 0) : findB n id = true ∧ addB n = true := by
  unfold dblE at h
  cases hf : findB n id with
  | false => rw [hf] at h; simp at h
  | true =>
    rw [hf] at h
    cases hb : addB n with
    | false => rw [hb] at h; simp at h
    | true => exact ⟨rfl, rfl⟩
theorem dbl_len {n : Net} {id : Int} (h : dblE n id = 0) : (dblN n id).fly.length = n.fly.length + 1 := by
  unfold dblN; rw [if_pos h]; exact add_len (dbl_0 h).2 _ _
theorem dbl_no {n : Net} {id : Int} (h : dblE n id ≠ 0) : dblN n id = n := by unfold dblN; rw [if_neg h]
theorem sev_fly (n : Net) (a b : Int) : (sevN n a b).fly = n.fly := by unfold sevN; split <;> rfl
theorem sev_no {n : Net} {a b : Int} (h : sevE n a b ≠ 0) : sevN n a b = n := by
  unfold sevE at h; unfold sevN
  split
  · rename_i hc
    simp only [Bool.and_eq_true, decide_eq_true_eq] at hc
    rw [if_pos hc.1.1, if_pos hc.1.2, if_pos hc.2] at h
    exact absurd rfl h
  · rfl
theorem heal_fly (n : Net) (a b : Int) : (healN n a b).fly = n.fly := by unfold healN; split <;> rfl
theorem heal_no {n : Net} {a b : Int} (h : healE a b ≠ 0) : healN n a b = n := by
  unfold healE at h; unfold healN
  split
  · rename_i hc; rw [if_pos hc] at h; exact absurd rfl h
  · rfl
theorem VN.idx_ne {n : Net} (h : VN n) {i j : Nat} (hi : i < n.fly.length) (hj : j < n.fly.length) (hne : j ≠ i) : (kAt n.fly j).1 ≠ (kAt n.fly i).1 := fun e => hne (((h.hit hj e).1).symm.trans (h.hit hi rfl).1)
theorem kAt_erase {l : List Pk} {i j : Nat} (hi : i < l.length) (hj : j < l.length - 1) : kAt (l.eraseIdx i) j = if j < i then kAt l j else kAt l (j + 1) := by
  have hl : (l.eraseIdx i).length = l.length - 1 := by rw [List.length_eraseIdx]; simp [hi]
  rw [kAt_lt (l := l.eraseIdx i) (by omega), List.getElem_eraseIdx]
  split
  · rw [kAt_lt (by omega)]
  · rw [kAt_lt (by omega)]
theorem VN.gone {n : Net} (h : VN n) {i : Nat} (hi : i < n.fly.length) : findB (withoutN n i) (kAt n.fly i).1 = false := by
  have hl : (n.fly.eraseIdx i).length = n.fly.length - 1 := by rw [List.length_eraseIdx]; simp [hi]
  refine (h.erase i).miss fun k hk => ?_
  change k < (n.fly.eraseIdx i).length at hk
  show (kAt (n.fly.eraseIdx i) k).1 ≠ _
  rw [kAt_erase hi (by omega)]
  split
  · exact h.idx_ne hi (by omega) (by omega)
  · exact h.idx_ne hi (by omega) (by omega)
theorem VN.lose_at {n : Net} (h : VN n) {i : Nat} (hi : i < n.fly.length) : loseN n (kAt n.fly i).1 = withoutN n i ∧ loseE n (kAt n.fly i).1 = 0 := by
  obtain ⟨e1, e2⟩ := h.hit hi rfl
  constructor
  · unfold loseN; rw [e2, e1]; rfl
  · unfold loseE; rw [e2]; rfl
theorem find_no {n : Net} {id : Int} (h : findB n id = false) : takeE n id = 90 ∧ loseE n id = 90 ∧ dblE n id = 90 := by
  unfold takeE loseE dblE; rw [h]; exact ⟨rfl, rfl, rfl⟩
end Go.Bu.W

