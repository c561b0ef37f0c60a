/- Bytes of keys. -/
import Derived.Test.YtelpjhdglgledaaDoorK20
namespace Go.Bu.W
open Sp
theorem bytesK_len (l : List Cv) : (bytesK l).length = 35 * l.length := by
  have h := byt_len l l.length (Nat.le_refl _)
  unfold bytN at h
  rwa [List.take_length] at h
theorem cvB_small {c : Cv} (h : ∀ i, i < 32 → c.k i < 256) : Small (cvB c) := by
  intro x hx
  unfold cvB at hx
  rcases List.mem_append.1 hx with hx | hx
  · rcases List.mem_cons.1 hx with rfl | hx
    · exact (wrap8_nat _).2
    · rcases List.mem_cons.1 hx with rfl | hx
      · exact (wrap8_nat _).2
      · rcases List.mem_cons.1 hx with rfl | hx
        · exact (wrap8_nat _).2
        · cases hx
  · obtain ⟨i, hi, rfl⟩ := List.mem_map.1 hx
    exact h i (List.mem_range.1 hi)
theorem bytesK_small {l : List Cv} (h : ∀ c, c ∈ l → ∀ i, i < 32 → c.k i < 256) : Small (bytesK l) := by
  intro x hx
  obtain ⟨c, hc, hx⟩ := List.mem_flatMap.1 hx
  exact cvB_small (h c hc) x hx
theorem cat0 {f g : Nat → AV} {i : Nat} : cat 0 f g (0 + i) = g i := by
  unfold cat
  rw [if_neg (Nat.not_lt_zero _), Nat.zero_add, Nat.sub_zero]
theorem pars_len (b : List Nat) : (parsL b).length ≤ b.length := by
  unfold parsL
  split
  · rw [items_len]; omega
  · exact Nat.zero_le _
theorem VL.small {l : List Cv} (h : VL l) : Small (bytesK l) := bytesK_small fun c hc => by
  obtain ⟨i, hi, rfl⟩ := List.getElem_of_mem hc
  have h1 := (h.1 i hi).2.2.2.2
  rwa [show cAt l i = l[i] by unfold cAt; rw [List.getD_eq_getElem?_getD, List.getElem?_eq_getElem hi]; rfl] at h1
end Go.Bu.W

