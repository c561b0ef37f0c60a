/- Who reaches whom. -/
import Derived.Test.YtjfggjlbnmdceaaKNQ
namespace Go.Bu.W
theorem ofI_comm (a b : Int) : ofI a b = ofI b a := by unfold ofI; rw [Int.min_comm, Int.max_comm]
theorem ofI_iff (c d a b : Int) : ofI c d = ofI a b ↔ (c = a ∧ d = b) ∨ (c = b ∧ d = a) := by
  unfold ofI
  rw [Prod.mk.injEq]
  omega
theorem VN.reach {n : Net} (h : VN n) (a b : Int) : reachN n a b = !decide (ofI a b ∈ n.cuts) := by
  by_cases hm : ofI a b ∈ n.cuts
  · obtain ⟨k, hk, he⟩ := List.getElem_of_mem hm
    rw [decide_eq_true hm, (h.cutHit hk (by rw [pAt_lt hk]; exact he)).2]; rfl
  · rw [decide_eq_false hm]
    exact h.cutMiss fun k hk e => hm (by rw [← e, pAt_lt hk]; exact List.getElem_mem hk)
theorem VN.sev_reach {n : Net} (h : VN n) {a b : Int} (hp : partsB a b = true) (hl : n.cuts.length < 200) (c d : Int) : reachN (sevN n a b) c d = (reachN n c d && !decide (ofI c d = ofI a b)) := by
  rw [(h.sev a b).reach, h.reach]
  have hmem : ∀ y, y ∈ (sevN n a b).cuts ↔ y = ofI a b ∨ y ∈ n.cuts := fun y => by
    unfold sevN
    rw [hp, decide_eq_true hl, Bool.true_and, Bool.and_true, h.reach]
    by_cases hm : ofI a b ∈ n.cuts
    · rw [decide_eq_true hm]
      show y ∈ n.cuts ↔ _
      exact ⟨.inr, fun q => q.elim (fun e => e ▸ hm) id⟩
    · rw [decide_eq_false hm]
      show y ∈ n.cuts.insertIdx _ _ ↔ _
      rw [ins_split _ _ _ (bs_spec (mono_P h.2.2.1 (ofI a b))).1]
      conv => rhs; rw [← List.take_append_drop (bsI (cP (ofI a b)) n.cuts) n.cuts]
      simp only [List.mem_append, List.mem_cons]
      constructor
      · rintro (q | q | q)
        · exact .inr (.inl q)
        · exact .inl q
        · exact .inr (.inr q)
      · rintro (q | q | q)
        · exact .inr (.inl q)
        · exact .inl q
        · exact .inr (.inr q)
  by_cases h1 : ofI c d = ofI a b
  · rw [decide_eq_true ((hmem _).2 (.inl h1)), decide_eq_true h1, Bool.not_true, Bool.and_false]
  · rw [decide_eq_false h1, Bool.not_false, Bool.and_true]
    congr 1
    exact decide_eq_decide.2 ⟨fun q => ((hmem _).1 q).resolve_left h1, fun q => (hmem _).2 (.inr q)⟩
theorem VN.heal_reach {n : Net} (h : VN n) {a b : Int} (hp : partsB a b = true) (c d : Int) : reachN (healN n a b) c d = (reachN n c d || decide (ofI c d = ofI a b)) := by
  rw [(h.heal a b).reach, h.reach]
  have hmem : ∀ y, y ∈ (healN n a b).cuts ↔ y ∈ n.cuts ∧ y ≠ ofI a b := fun y => by
    unfold healN filtL
    rw [if_pos hp]
    simp only [List.mem_filter, decide_eq_true_eq]
  by_cases h1 : ofI c d = ofI a b
  · rw [decide_eq_false fun q => ((hmem _).1 q).2 h1, decide_eq_true h1, Bool.or_true]; rfl
  · rw [decide_eq_false h1, Bool.or_false]
    congr 1
    exact decide_eq_decide.2 ⟨fun q => ((hmem _).1 q).1, fun q => (hmem _).2 ⟨q, h1⟩⟩
theorem sev_next (n : Net) (a b : Int) : (sevN n a b).next = n.next := by unfold sevN; split <;> rfl
theorem heal_sev {n : Net} (h : VN n) {a b : Int} (hp : partsB a b = true) : healN (sevN n a b) a b = healN n a b := by
  have hc : filtL (sevN n a b).cuts (ofI a b) = filtL n.cuts (ofI a b) := by
    unfold sevN
    split
    · show filtL (n.cuts.insertIdx _ _) _ = _
      rw [ins_split _ _ _ (bs_spec (mono_P h.2.2.1 (ofI a b))).1]
      unfold filtL
      rw [List.filter_append, List.filter_cons_of_neg (by simp)]
      conv => rhs; rw [← List.take_append_drop (bsI (cP (ofI a b)) n.cuts) n.cuts]
      rw [List.filter_append]
    · rfl
  unfold healN
  rw [if_pos hp, if_pos hp, hc, sev_fly, sev_next]
theorem step_cuts (n : Net) (x : Tri) : (stepN n x).cuts.length ≤ n.cuts.length + 1 := by
  have ha : ∀ a b, (addN n a b).cuts = n.cuts := fun a b => by unfold addN; split <;> rfl
  have hs : ∀ a b, (sendN n a b).cuts = n.cuts := fun a b => by
    unfold sendN; split
    · exact ha a b
    · rfl
  have hl : ∀ id, (loseN n id).cuts = n.cuts := fun id => by unfold loseN; split <;> rfl
  have ht : ∀ id, (takeN n id).cuts = n.cuts := fun id => by
    unfold takeN; split
    · exact hl id
    · rfl
  have hd : ∀ id, (dblN n id).cuts = n.cuts := fun id => by
    unfold dblN; split
    · exact ha _ _
    · rfl
  have hv : ∀ a b, (sevN n a b).cuts.length ≤ n.cuts.length + 1 := fun a b => by
    unfold sevN; split
    · show (n.cuts.insertIdx _ _).length ≤ _
      rw [List.length_insertIdx]; split <;> omega
    · exact Nat.le_succ _
  have hh : ∀ a b, (healN n a b).cuts.length ≤ n.cuts.length := fun a b => by
    unfold healN; split
    · exact List.filter_sublist.length_le
    · exact Nat.le_refl _
  unfold stepN
  split
  · rw [hs]; omega
  · split
    · rw [ht]; omega
    · split
      · rw [hl]; omega
      · split
        · rw [hd]; omega
        · split
          · exact hv _ _
          · exact Nat.le_succ_of_le (hh _ _)
theorem made_cuts (l : List Tri) : (madeN l).cuts.length ≤ 20 := by
  have key : ∀ (l : List Tri) (n : Net), (l.foldl stepN n).cuts.length ≤ n.cuts.length + l.length := by
    intro l
    induction l with
    | nil => exact fun n => Nat.le_refl _
    | cons x r ih =>
      intro n
      have h1 := ih (stepN n x)
      have h2 := step_cuts n x
      show (List.foldl stepN (stepN n x) r).cuts.length ≤ _
      simp only [List.length_cons]; omega
  have h1 := key (l.take 20) net0
  have h2 : (l.take 20).length ≤ 20 := by simp; omega
  have h3 : net0.cuts.length = 0 := rfl
  unfold madeN madeI
  omega
/-- What happens to a packet that is there, in a net with the same packets. -/
theorem VN.take_of {n s : Net} (hs : VN s) (hf : s.fly = n.fly) {i : Nat} (hi : i < n.fly.length) : takeE s (kAt n.fly i).1 = (if reachN s (kAt n.fly i).2.1 (kAt n.fly i).2.2 then 0 else 320) ∧ (reachN s (kAt n.fly i).2.1 (kAt n.fly i).2.2 = false → takeN s (kAt n.fly i).1 = s) ∧ (reachN s (kAt n.fly i).2.1 (kAt n.fly i).2.2 = true → takeP s (kAt n.fly i).1 = kAt n.fly i) := by
  obtain ⟨h1, h2⟩ := hs.hit (id := (kAt n.fly i).1) (i := i) (by rw [hf]; exact hi) (by rw [hf])
  have hp : pkN s (kAt n.fly i).1 = kAt n.fly i := by unfold pkN; rw [h1, hf]
  have e : takeE s (kAt n.fly i).1 = if reachN s (kAt n.fly i).2.1 (kAt n.fly i).2.2 then 0 else 320 := by unfold takeE; rw [h2, hp]; rfl
  refine ⟨e, fun q => ?_, fun q => ?_⟩
  · rw [q] at e; exact take_no (by rw [e]; decide)
  · rw [q, if_pos rfl] at e; unfold takeP; rw [if_pos e, hp]
end Go.Bu.W

