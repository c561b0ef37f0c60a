/- Lists, rows and searches by halves: what every seat can use. -/
import Derived.Test.YtelpjhdglgledaaDoorK10
import Derived.Test.YtelpjhdglgledaaDoorK9
namespace Go.Bu
def cmpI (a b : Int) : Int := if a < b then -1 else if b < a then 1 else 0
def orI (a b : Int) : Int := if a ≠ 0 then a else b
def bsI {α : Type} (c : α → Int) (l : List α) : Nat := (l.takeWhile fun y => decide (c y < 0)).length
def bsB {α : Type} (c : α → Int) (l : List α) : Bool := l.any fun y => decide (c y = 0)
def sel (b : Bool) (x y : Option (AV × List (Nat × Blk))) : Option (AV × List (Nat × Blk)) := match b with | true => x | false => y
/-- Two results that hold no memory. -/
theorem post_tup {C : Ctx} {N : Nat} {S : St} {t u : Nat} {x y r q : AV} (h : look S.tm t = some x) (h2 : look S.tm u = some y) (hs : simR (fun _ => none) x r) (hs2 : simR (fun _ => none) y q) (htu : Nat.beq t u = false) (hn : noTups [r, q] = true := by rfl) : FunPost C N 0 [.tmp t, .tmp u] (.tup [r, q]) [] .ret S := by
  refine ⟨{ tm := [(t, r), (u, q)], hp := [], seen := [] }, .tup [r, q], ent_of [] rfl (tm_cons h hs (tm_cons h2 hs2 tm_nil)) hp_nil, by simp [resAV, resAll, resOne, look, Nat.beq_refl, htu, hn], fun _ _ _ _ h => h, fun id b hb => by cases hb⟩
theorem beq_dec (a b : Int) : (a == b) = decide (a = b) := by
  by_cases e : a = b <;> simp [e]
theorem half (n : Nat) (h : n < 2 ^ 63) : bShr .u64 (IntKind.wrap .u64 (n : Int)) 1 = ((n / 2 : Nat) : Int) := by
  have e1 : IntKind.wrap .u64 (n : Int) = (n : Int) := by
    simp [IntKind.wrap, IntKind.bits, IntKind.signed]
    omega
  rw [e1]
  unfold bShr
  simp only [IntKind.bits]
  show (n : Int).fdiv (2 ^ (min 1 64)) = _
  rw [Int.fdiv_eq_ediv_of_nonneg _ (by decide)]
  simp
/-- What is looked for stands where it would be: c grows along the list. -/
def Mono {α : Type} (c : α → Int) (l : List α) (d : α) : Prop := ∀ i j, i < j → j < l.length → c (l.getD j d) ≤ 0 → c (l.getD i d) < 0
theorem tw_len {α : Type} {p : α → Bool} {d : α} : ∀ {l : List α} {k : Nat}, k ≤ l.length → (∀ i, i < k → p (l.getD i d) = true) → (k < l.length → p (l.getD k d) = false) → (l.takeWhile p).length = k
  | [], k, hk, _, _ => by simp at hk; simp [hk]
  | x :: r, 0, _, _, h => by
    have := h (by simp)
    simp only [List.getD_cons_zero] at this
    simp [this]
  | x :: r, k + 1, hk, h1, h2 => by
    have h0 := h1 0 (by omega)
    simp only [List.getD_cons_zero] at h0
    rw [List.takeWhile_cons, if_pos h0, List.length_cons, tw_len (k := k) (d := d) (by simpa using hk) (fun i hi => by have := h1 (i + 1) (by omega); simpa using this) fun h => by have := h2 (by simp; omega); simpa using this]
theorem bs_at {α : Type} {c : α → Int} {l : List α} {d : α} {k : Nat} (hk : k ≤ l.length) (h1 : ∀ i, i < k → c (l.getD i d) < 0) (h2 : ∀ i, k ≤ i → i < l.length → 0 ≤ c (l.getD i d)) : bsI c l = k :=
  tw_len (d := d) hk (fun i hi => decide_eq_true (h1 i hi)) fun h => decide_eq_false (by have := h2 k (Nat.le_refl _) h; omega)
theorem bs_has {α : Type} {c : α → Int} {l : List α} {d : α} {k : Nat} (hm : Mono c l d) (hk : k < l.length) (h1 : ∀ i, i < k → c (l.getD i d) < 0) (h2 : 0 ≤ c (l.getD k d)) : bsB c l = decide (c (l.getD k d) = 0) := by
  unfold bsB
  by_cases e : c (l.getD k d) = 0
  · rw [decide_eq_true e, List.any_eq_true]
    refine ⟨l.getD k d, ?_, decide_eq_true e⟩
    rw [List.getD_eq_getElem?_getD, List.getElem?_eq_getElem hk]
    exact List.getElem_mem hk
  · rw [decide_eq_false e]
    refine Bool.eq_false_iff.2 fun ha => e ?_
    obtain ⟨y, hy, hc⟩ := List.any_eq_true.1 ha
    obtain ⟨j, hj, rfl⟩ := List.getElem_of_mem hy
    have hd : l.getD j d = l[j] := by rw [List.getD_eq_getElem?_getD, List.getElem?_eq_getElem hj]; rfl
    have hc := of_decide_eq_true hc
    rw [← hd] at hc
    rcases Nat.lt_trichotomy j k with h | rfl | h
    · have := h1 j h; omega
    · exact hc
    · have := hm k j h hj (by omega)
      omega
theorem bs_none {α : Type} {c : α → Int} {l : List α} {d : α} (h1 : ∀ i, i < l.length → c (l.getD i d) < 0) : bsB c l = false := by
  unfold bsB
  refine Bool.eq_false_iff.2 fun ha => ?_
  obtain ⟨y, hy, hc⟩ := List.any_eq_true.1 ha
  obtain ⟨j, hj, rfl⟩ := List.getElem_of_mem hy
  have hd : l.getD j d = l[j] := by rw [List.getD_eq_getElem?_getD, List.getElem?_eq_getElem hj]; rfl
  have hc := of_decide_eq_true hc
  have := h1 j hj
  rw [hd] at this
  omega
/-- A slice of nothing is some slice of length 0. -/
theorem fun_zero {C : Ctx} {P : Program} {g : Nat} {ex : Bool} {e : Nat} {f : Nat → AV} {r : AV} {H' : List (Nat × Blk)} (h : ∀ q c, Fun C P g [.v (.slice q 0 c)] [] r H') : Fun C P g [.dat 0 ex e f] [] r H' := by
  intro ρ A w vs hlen hrv hH hAb hrb hgl
  match vs, hlen with
  | [v], _ =>
    have h0 := hrv 0 _ _ rfl rfl
    obtain ⟨q, c, rfl⟩ : ∃ q c, v = .slice q 0 c := by
      rcases h0 with ⟨_, hr⟩ | ⟨hl, _⟩
      · generalize hvs : [v] = us at hr
        cases hr with
        | dat0 _ => exact ⟨_, _, (List.cons.inj hvs).1⟩
        | dat q hA hc _ hlen hq hr => exact ⟨_, _, (List.cons.inj hvs).1⟩
      · cases hl
    refine h q c ρ A w [.slice q 0 c] rfl (fun i x v hx hv => ?_) hH hAb hrb hgl
    cases i with
    | zero => cases hx; cases hv; exact .inl ⟨rfl, .v rfl⟩
    | succ i => cases hx
theorem nm1 (l : List Nat) (id : Nat) (b : Blk) : namesOK [(id, 0)] 0 l [0] [(0, b)] = true := by
  simp only [namesOK, keysOf, distinct, memb, List.map, List.all_cons, List.all_nil, List.range_zero, Nat.beq_refl]
  cases memb l id <;> rfl
theorem post_row {C : Ctx} {N : Nat} {S : St} {t id n n' c c' m m' e : Nat} {ex : Bool} {g g' : Nat → AV} (h : look S.tm t = some (.sl id [] 0 n c ex e)) (hb : look S.hp id = some (.c (.arr m e g))) (hn : n = n') (h1 : n' ≤ c') (h2 : c' ≤ c) (hm : m = m') (hg : ∀ i, i < m → g i = g' i) :
    FunPost C N 0 [.tmp t] (.sl 0 [] 0 n' c' false e) [(0, .c (.arr m' e g'))] .ret S :=
  funPost_of (r' := .sl 0 [] 0 n' c' false e) (S2 := { tm := [(t, .sl 0 [] 0 n' c' false e)], hp := [(0, .c (.arr m' e g'))], seen := [0] }) (by simp) (ent_of [(id, 0)] (nm1 _ _ _) (tm_cons h (sm_sl (by simp [look, Nat.beq_refl]) hn (by omega) h2 (by simp)) tm_nil) (hp_cons rfl hb (sm_arr' hm hg) hp_nil)) (by simp [resAV, resAll, resOne, look, Nat.beq_refl])
    (.inr ⟨rfl, rfl, rfl, rfl, h1, Nat.le_refl _, by simp, rfl⟩) fun _ _ h => h
/-- The row handed in by reference stays where it was. -/
theorem post_row1 {C : Ctx} {N : Nat} {S : St} {t n n' c c' m m' e : Nat} {ex : Bool} {g g' : Nat → AV} (h : look S.tm t = some (.sl 0 [] 0 n c ex e)) (hb : look S.hp 0 = some (.c (.arr m e g))) (hn : n = n') (h1 : n' ≤ c') (h2 : c' ≤ c) (hm : m = m') (hg : ∀ i, i < m → g i = g' i)
    (hno : namesOK [(0, 0)] 1 S.seen [0] [(0, Blk.c (AV.arr m' e g'))] = true := by rfl) : FunPost C N 1 [.tmp t] (.sl 0 [] 0 n' c' false e) [(0, .c (.arr m' e g'))] .ret S :=
  funPost_of (r' := .sl 0 [] 0 n' c' false e) (S2 := { tm := [(t, .sl 0 [] 0 n' c' false e)], hp := [(0, .c (.arr m' e g'))], seen := [0] }) (by simp) (ent_of [(0, 0)] hno (tm_cons h (sm_sl (by simp [look]) hn (by omega) h2 (by simp)) tm_nil) (hp_cons rfl hb (sm_arr' hm hg) hp_nil)) (by simp [resAV, resAll, resOne, look, Nat.beq_refl])
    (.inr ⟨rfl, rfl, rfl, rfl, h1, Nat.le_refl _, by simp, rfl⟩) fun _ _ h => h
theorem post_row_nil {C : Ctx} {N : Nat} {S : St} {t e e' : Nat} {f g' : Nat → AV} (h : look S.tm t = some (.dat 0 true e f)) : FunPost C N 0 [.tmp t] (.sl 0 [] 0 0 0 false e') [(0, .c (.arr 0 e' g'))] .ret S :=
  funPost_of (r' := .sl 0 [] 0 0 0 false e') (S2 := { tm := [(t, .sl 0 [] 0 0 0 false e')], hp := [(0, .c (.arr 0 e' g'))], seen := [0] }) (by simp) (ent_of [] rfl (tm_cons h (sm_nil rfl rfl) tm_nil) (hp_new rfl rfl hp_nil)) (by simp [resAV, resAll, resOne, look, Nat.beq_refl])
    (.inr ⟨rfl, rfl, rfl, rfl, Nat.le_refl _, Nat.le_refl _, by simp, rfl⟩) fun _ _ h => h
theorem shp_lay {o m : Nat} {f g : Nat → AV} {z : AV} {k : Nat} (hf : shp (f k) z) (hg : shp (g (k - o)) z) : shp (lay o m f g k) z := by
  unfold lay
  split
  · exact hf
  · split
    · exact hg
    · exact hf
/-- The row without its part i. -/
def delF (n i : Nat) (z : AV) (f : Nat → AV) (k : Nat) : AV := if k < i then f k else if k + 1 < n then f (k + 1) else z
theorem del_lay {n i k : Nat} (f : Nat → AV) (z : AV) (hi : i < n) (hk : k < n) : lay (0 + (i + (n - (i + 1)))) (min (n - (i + (n - (i + 1)))) (n - (i + (n - (i + 1))))) (lay (0 + i) (n - (i + 1)) f (fun j => f (0 + (i + 1) + j))) (fun _ => z) k = delF n i z f k := by
  unfold delF lay
  by_cases h1 : k < i
  · rw [if_pos (by omega), if_pos (by omega), if_pos h1]
  · by_cases h2 : k + 1 < n
    · rw [if_pos (by omega), if_neg (by omega), if_pos (by omega), if_neg h1, if_pos h2]
      show f (0 + (i + 1) + (k - (0 + i))) = _
      rw [show 0 + (i + 1) + (k - (0 + i)) = k + 1 by omega]
    · rw [if_neg (by omega), if_pos (by omega), if_neg h1, if_neg h2]
theorem one_id {b : Blk} (id : Nat) (h : look [(0, b)] id ≠ none) : id < 1 := by
  unfold look at h
  split at h
  · rename_i e; have := beq_iff.1 e; omega
  · exact absurd rfl h
theorem take_step {α : Type} {l : List α} {j : Nat} {d : α} (h : j < l.length) : l.take (j + 1) = l.take j ++ [l.getD j d] := by
  rw [List.take_succ_eq_append_getElem h, List.getD_eq_getElem?_getD, List.getElem?_eq_getElem h]; rfl
theorem tw_spec {α : Type} (p : α → Bool) (d : α) : ∀ l : List α, (l.takeWhile p).length ≤ l.length ∧ (∀ k, k < (l.takeWhile p).length → p (l.getD k d) = true) ∧ ((l.takeWhile p).length < l.length → p (l.getD (l.takeWhile p).length d) = false)
  | [] => ⟨Nat.le_refl _, fun k hk => absurd hk (Nat.not_lt_zero k), fun h => absurd h (Nat.lt_irrefl _)⟩
  | y :: r => by
    have ih := tw_spec p d r
    cases e : p y with
    | false =>
      rw [List.takeWhile_cons_of_neg (by simp [e])]
      exact ⟨Nat.zero_le _, fun k hk => absurd hk (Nat.not_lt_zero k), fun _ => by simpa using e⟩
    | true =>
      rw [List.takeWhile_cons_of_pos e]
      simp only [List.length_cons]
      refine ⟨by omega, fun k hk => ?_, fun h => ?_⟩
      · cases k with
        | zero => simpa using e
        | succ k => simpa using ih.2.1 k (by omega)
      · simpa using ih.2.2 (by omega)
def insF (i : Nat) (x : AV) (f : Nat → AV) (k : Nat) : AV := if k < i then f k else if k = i then x else f (k - 1)
def firstOf : AV → AV
  | .st (x :: _) => x
  | .arr _ _ f => f 0
  | x => x
theorem two_id {b b1 : Blk} (id : Nat) (h : look [(0, b), (1, b1)] id ≠ none) : id < 2 := by
  simp only [look] at h
  split at h
  · rename_i e; have := beq_iff.1 e; omega
  · split at h
    · rename_i e; have := beq_iff.1 e; omega
    · exact absurd rfl h
/-- A row of one's own under a new name, behind two that were handed in. -/
theorem post_row2 {C : Ctx} {N : Nat} {S : St} {t id n n' c c' m m' e : Nat} {ex : Bool} {g g' : Nat → AV} (h : look S.tm t = some (.sl id [] 0 n c ex e)) (hb : look S.hp id = some (.c (.arr m e g))) (hn : n = n') (h1 : n' ≤ c') (h2 : c' ≤ c) (hm : m = m') (hg : ∀ i, i < m → g i = g' i)
    (hno : namesOK [(0, 0), (1, 1), (id, 2)] 2 S.seen [0, 1, 2] [(2, Blk.c (AV.arr m' e g'))] = true := by rfl) (hid : look [(0, 0), (1, 1), (id, 2)] id = some 2 := by rfl) : FunPost C N 2 [.tmp t] (.sl 2 [] 0 n' c' false e) [(2, .c (.arr m' e g'))] .ret S :=
  funPost_of (r' := .sl 2 [] 0 n' c' false e) (S2 := { tm := [(t, .sl 2 [] 0 n' c' false e)], hp := [(2, .c (.arr m' e g'))], seen := [0, 1, 2] }) (by simp) (ent_of [(0, 0), (1, 1), (id, 2)] hno (tm_cons h (sm_sl hid hn (by omega) h2 (by simp)) tm_nil) (hp_cons rfl hb (sm_arr' hm hg) hp_nil)) (by simp [resAV, resAll, resOne, look, Nat.beq_refl])
    (.inr ⟨rfl, rfl, rfl, rfl, h1, Nat.le_refl _, by simp, rfl⟩) fun _ _ h => h
/-- .., or in the place of the first. -/
theorem post_row20 {C : Ctx} {N : Nat} {S : St} {t n n' c c' m m' e : Nat} {ex : Bool} {g g' : Nat → AV} (h : look S.tm t = some (.sl 0 [] 0 n c ex e)) (hb : look S.hp 0 = some (.c (.arr m e g))) (hn : n = n') (h1 : n' ≤ c') (h2 : c' ≤ c) (hm : m = m') (hg : ∀ i, i < m → g i = g' i)
    (hno : namesOK [(0, 0), (1, 1)] 2 S.seen [0, 1] [(0, Blk.c (AV.arr m' e g'))] = true := by rfl) : FunPost C N 2 [.tmp t] (.sl 0 [] 0 n' c' false e) [(0, .c (.arr m' e g'))] .ret S :=
  funPost_of (r' := .sl 0 [] 0 n' c' false e) (S2 := { tm := [(t, .sl 0 [] 0 n' c' false e)], hp := [(0, .c (.arr m' e g'))], seen := [0, 1] }) (by simp) (ent_of [(0, 0), (1, 1)] hno (tm_cons h (sm_sl rfl hn (by omega) h2 (by simp)) tm_nil) (hp_cons rfl hb (sm_arr' hm hg) hp_nil)) (by simp [resAV, resAll, resOne, look, Nat.beq_refl])
    (.inr ⟨rfl, rfl, rfl, rfl, h1, Nat.le_refl _, by simp, rfl⟩) fun _ _ h => h
theorem ins_grow {n i k m : Nat} (g : Nat → AV) (z x : AV) (hi : i < n) (hk : k < n + 1) (hm : m = n + 1 - i) :
    lay (0 + (i + 1)) (min (n - i) (i + m - (i + 1))) (lay (0 + i) (min 1 (i + m - i)) (cat i (fun j => g (0 + j)) (fun _ => z)) (fun _ => x)) (fun j => g (0 + i + j)) k = insF i x g k := by
  unfold lay cat insF
  by_cases h1 : k < i
  · rw [if_pos (by omega), if_pos (by omega), if_pos h1, if_pos h1]
    show g (0 + k) = _
    rw [Nat.zero_add]
  · by_cases h2 : k = i
    · rw [if_pos (by omega), if_neg (by omega), if_pos (by omega), if_neg h1, if_pos h2]
    · rw [if_neg (by omega), if_pos (by omega), if_neg h1, if_neg h2]
      show g (0 + i + (k - (0 + (i + 1)))) = _
      rw [show 0 + i + (k - (0 + (i + 1))) = k - 1 by omega]
theorem ins_room {n i k : Nat} (g : Nat → AV) (x : AV) (hi : i < n) (hk : k < n + 1) :
    lay (0 + i) (min 1 (n + 1 - i)) (lay (0 + (i + 1)) (min (n + 1 - i) (n + 1 - (i + 1))) g (fun j => g (0 + i + j))) (fun _ => x) k = insF i x g k := by
  unfold lay insF
  by_cases h1 : k < i
  · rw [if_pos (by omega), if_pos (by omega), if_pos h1]
  · by_cases h2 : k = i
    · rw [if_neg (by omega), if_pos (by omega), if_neg h1, if_pos h2]
    · rw [if_neg (by omega), if_neg (by omega), if_neg (by omega), if_pos (by omega), if_neg h1, if_neg h2]
      show g (0 + i + (k - (0 + (i + 1)))) = _
      rw [show 0 + i + (k - (0 + (i + 1))) = k - 1 by omega]
theorem ins_cut {n i k : Nat} (f s : Nat → AV) (x : AV) (hi : i < n) (hk : k < n + 1) : insF i x (fun j => if j < n then f j else s j) k = insF i x f k := by
  unfold insF
  by_cases h1 : k < i
  · rw [if_pos h1, if_pos h1]; show (if k < n then _ else _) = _; rw [if_pos (by omega)]
  · by_cases h2 : k = i
    · rw [if_neg h1, if_pos h2, if_neg h1, if_pos h2]
    · rw [if_neg h1, if_neg h2, if_neg h1, if_neg h2]; show (if k - 1 < n then _ else _) = _; rw [if_pos (by omega)]
theorem shp_ite {c : Prop} [Decidable c] {x y z : AV} (h1 : shp x z) (h2 : shp y z) : shp (if c then x else y) z := by split <;> assumption
theorem shp_ite2 {c : Prop} [Decidable c] {x y z : AV} (h1 : shp z x) (h2 : shp z y) : shp z (if c then x else y) := by split <;> assumption
theorem shp_cat {n : Nat} {f g : Nat → AV} {z : AV} {k : Nat} (hf : shp (f k) z) (hg : shp (g (k - n)) z) : shp (cat n f g k) z := by unfold cat; split <;> assumption
theorem ins_end {n k : Nat} (g : Nat → AV) (x : AV) (hk : k < n + 1) : cat n (fun j => g (0 + j)) (fun _ => x) k = insF n x g k := by
  unfold cat insF
  by_cases h1 : k < n
  · rw [if_pos h1, if_pos h1]; show g (0 + k) = _; rw [Nat.zero_add]
  · rw [if_neg h1, if_neg h1, if_pos (by omega)]
theorem rep_cells {w : World} {A : Nat → Prop} {ρ : Ren} {e : Nat} {xs : List Value} (hl : xs.length = e) (hn : ∀ z, z ∈ xs → nota z = true) : Rep w A ρ (.arr e 1 fun j => .v (xs.getD j undef)) xs := by
  have hg : ∀ j, j < e → xs[j]? = some (xs.getD j undef) := fun j hj => by
    rw [List.getD_eq_getElem?_getD, List.getElem?_eq_getElem (by omega)]; rfl
  refine .arr (fun j => [xs.getD j undef]) (fun _ _ => rfl) (fun j hj => .v (hn _ (List.mem_of_getElem? (hg j hj)))) ?_
  apply List.ext_getElem?
  intro j
  by_cases hj : j < e
  · obtain ⟨y1, y2, y3⟩ := flat_get (n := e) (e := 1) (g := fun j => [xs.getD j undef]) (fun _ _ => rfl) (k := j) (by omega)
    rw [y1, hg j hj, Nat.div_one, Nat.mod_one]; rfl
  · rw [List.getElem?_eq_none (by omega), List.getElem?_eq_none (by rw [flat_len (e := 1) (fun _ _ => rfl)]; omega)]
theorem cmpI_lt {a b : Int} : cmpI a b < 0 ↔ a < b := by unfold cmpI; split <;> (try split) <;> omega
theorem cmpI_eq {a b : Int} : cmpI a b = 0 ↔ a = b := by unfold cmpI; split <;> (try split) <;> omega
theorem cmpI_le {a b : Int} : cmpI a b ≤ 0 ↔ a ≤ b := by unfold cmpI; split <;> (try split) <;> omega
/-- What the search finds. -/
theorem bs_spec {α : Type} {c : α → Int} {l : List α} {d : α} (hm : Mono c l d) : bsI c l ≤ l.length ∧ (∀ i, i < bsI c l → c (l.getD i d) < 0) ∧ (∀ i, bsI c l ≤ i → i < l.length → 0 ≤ c (l.getD i d)) ∧ (bsB c l = true ↔ bsI c l < l.length ∧ c (l.getD (bsI c l) d) = 0) := by
  obtain ⟨h1, h2, h3⟩ := tw_spec (fun y => decide (c y < 0)) d l
  change bsI c l ≤ _ at h1
  have h2 : ∀ i, i < bsI c l → c (l.getD i d) < 0 := fun i hi => of_decide_eq_true (h2 i hi)
  have h3 : bsI c l < l.length → ¬ c (l.getD (bsI c l) d) < 0 := fun h => of_decide_eq_false (h3 h)
  have h4 : ∀ i, bsI c l ≤ i → i < l.length → 0 ≤ c (l.getD i d) := fun i hi hl => by
    refine Classical.byContradiction fun hc => ?_
    by_cases e : i = bsI c l
    · rw [e] at hc hl; exact h3 hl (by omega)
    · exact h3 (by omega) (hm (bsI c l) i (by omega) hl (by omega))
  refine ⟨h1, h2, h4, ⟨fun hb => ?_, fun ⟨hk, h0⟩ => ?_⟩⟩
  · by_cases hk : bsI c l < l.length
    · rw [bs_has hm hk h2 (h4 _ (Nat.le_refl _) hk)] at hb
      exact ⟨hk, of_decide_eq_true hb⟩
    · rw [bs_none (d := d) fun i hi => h2 i (by omega)] at hb
      cases hb
  · rw [bs_has hm hk h2 (h4 _ (Nat.le_refl _) hk)]; exact decide_eq_true h0
theorem bnt {b : Bool} (h : (!b) = true) : b = false := by cases b <;> simp_all
theorem bnf {b : Bool} (h : (!b) = false) : b = true := by cases b <;> simp_all
theorem ne_no {a : Int} {b : Int} (h : a = b) (h2 : (a != b) = true) : False := by rw [h] at h2; simp at h2
theorem nt_no {b : Bool} (h : b = true) (h2 : (!b) = true) : False := by rw [h] at h2; cases h2
theorem tf_no {b : Bool} (h : b = true) (h2 : b = false) : False := by rw [h] at h2; cases h2

/-- Some blocks are data from now on. -/
theorem post_frz {C : Ctx} {N k : Nat} {rs : List ResultVar} {r : AV} {H' : List (Nat × Blk)} {e : Ex} {S : St} (L : List Nat) (h : FunPost C N k rs r H' e (S.freeze L)) : FunPost C N k rs r H' e S := by
  cases e with
  | exit j => exact h
  | normal => obtain ⟨S2, r', h1, h2⟩ := h; exact ⟨S2, r', (ent_freeze S L).trans h1, h2⟩
  | ret => obtain ⟨S2, r', h1, h2⟩ := h; exact ⟨S2, r', (ent_freeze S L).trans h1, h2⟩

theorem look_one {b : Blk} {q id : Nat} : look [(q, b)] id ≠ none ↔ id = q := by
  simp only [look]
  by_cases e0 : q = id
  · subst e0; simp
  · simp [beq_false e0]; omega
/-- What is given back bears another name. -/
theorem fun_name {C : Ctx} {P : Program} {g : FuncId} {args : List AV} {H : List (Nat × Blk)} {r r2 b b2 : AV} {kk k2 : Nat} (h : Fun C P g args H r [(kk, .c b)]) (hk2 : look H k2 = none)
    (hr : simR (fun j => if j = kk then some k2 else none) r r2) (hb : simR (fun j => if j = kk then some k2 else none) b b2) : Fun C P g args H r2 [(k2, .c b2)] := by
  intro ρ A w vs hlen hrv hH hAb hrb hgl
  have hρk : ρ k2 = none := by
    cases hq : ρ k2 with
    | none => rfl
    | some l => exact absurd hk2 (hrb k2 l hq).2
  refine (h ρ A w vs hlen hrv hH hAb hrb hgl).mono fun v w' => ?_
  rintro ⟨ρ2, A2, s1, s2, s3, s4, s5, s6⟩
  obtain ⟨ρ3, hρ3⟩ : ∃ ρ3 : Ren, ρ3 = fun i => if i = k2 then ρ2 kk else ρ i := ⟨_, rfl⟩
  have h32 : ρ3 k2 = ρ2 kk := by simp [hρ3]
  have h3o : ∀ i, i ≠ k2 → ρ3 i = ρ i := fun i hi => by simp [hρ3, hi]
  have hm : ∀ i j l, (if i = kk then some k2 else none) = some j → ρ2 i = some l → ρ3 j = some l := fun i j l h1 h2 => by
    split at h1
    · rename_i e; subst e; cases h1; rw [h32]; exact h2
    · cases h1
  have hown : own ρ3 [(k2, .c b2)] = own ρ2 [(kk, .c b)] := by
    funext x
    refine propext ⟨?_, ?_⟩
    · rintro ⟨id, l, z1, z2, z3⟩
      rw [look_one.1 z1, h32] at z2
      exact ⟨kk, l, look_one.2 rfl, z2, z3⟩
    · rintro ⟨id, l, z1, z2, z3⟩
      rw [look_one.1 z1] at z2
      exact ⟨k2, l, look_one.2 rfl, by rw [h32]; exact z2, z3⟩
  refine ⟨ρ3, A2, s1.simR hr hm, ⟨fun id x hx => ?_, fun id id' l l' g1 g2 _ _ _ => ?_, fun id l g1 g2 => ?_⟩, fun id l hl => ?_, s4, fun id l hl => ?_, by rw [hown]; exact s6⟩
  · have hid := look_one.1 (by rw [hx]; simp : look [(k2, Blk.c b2)] id ≠ none)
    subst hid
    have hx' : x = .c b2 := by simpa [look, Nat.beq_refl] using hx.symm
    subst hx'
    rcases s2.blk kk (.c b) (by simp [look, Nat.beq_refl]) with ⟨l, q1, q2, q3⟩ | ⟨q1, e, f, q2⟩
    · obtain ⟨cs, el, fz, us, rest, e1, e2, e3, e4, e5⟩ := q2
      exact .inl ⟨l, by rw [h32]; exact q1, ⟨cs, el, fz, us, rest, e1, e2.imp_right fun q => ⟨q.1, simR_row1 hb q.2⟩, e3, rep_simR e4 hb hm, e5⟩, fun t ht => by cases ht; exact (q3 b rfl).trans (simR_shape hb)⟩
    · cases q2
      refine .inr ⟨by rw [h32]; exact q1, ?_⟩
      rcases hb with ⟨_, rfl⟩ | hb
      · exact ⟨_, _, rfl⟩
      · cases b2 <;> simp only [sim] at hb
        obtain ⟨g4, _, _⟩ := hb
        subst g4
        exact ⟨_, _, rfl⟩
  · rw [look_one.1 g1, look_one.1 g2]
  · rw [look_one.1 g1, h32] at g2
    exact s2.apart kk l (look_one.2 rfl) g2
  · rw [h3o id fun e => by rw [e, hρk] at hl; cases hl]; exact hl
  · by_cases e2 : id = k2
    · rw [e2, h32] at hl; exact s5 kk l hl
    · rw [h3o id e2] at hl
      exact Nat.lt_of_lt_of_le (hrb id l hl).1 s6.size
/-- Two results: a block of its own, and a slot. -/
theorem post_cell_tmp {C : Ctx} {N : Nat} {S : St} {a t id b : Nat} {x r y q : AV} (h : look S.tm a = some (.ptr id [])) (hb : look S.hp id = some (.c x)) (hs : simR (look [(id, 0)]) x r) (hf : fitsT C t r = true)
    (h2 : look S.tm b = some y) (hs2 : simR (look [(id, 0)]) y q) (hab : Nat.beq a b = false) (hn : noTups [r, q] = true) : FunPost C N 0 [.cell a t, .tmp b] (.tup [r, q]) [] .ret S := by
  refine ⟨{ tm := [(a, .ptr 0 []), (b, q)], hp := [(0, .c r)], seen := [0] }, .tup [r, q], ent_of [(id, 0)] ?_ (tm_cons h (sm_ptr (by simp [look, Nat.beq_refl])) (tm_cons h2 hs2 tm_nil)) (hp_cons rfl hb hs hp_nil), by simp [resAV, resAll, resOne, look, Nat.beq_refl, AV.sub, hf, hab, hn], fun _ _ _ _ h => h, fun id b hb => by cases hb⟩
  simp only [namesOK, keysOf, distinct, memb, List.map, List.all_cons, List.all_nil, List.range_zero, Nat.beq_refl]
  cases memb S.seen id <;> rfl
end Go.Bu

