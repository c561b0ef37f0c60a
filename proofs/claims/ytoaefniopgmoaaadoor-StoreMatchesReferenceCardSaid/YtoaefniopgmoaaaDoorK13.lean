/- Lists, rows and searches by halves: what every seat can use. -/
import Derived.Test.YtoaefniopgmoaaaDoorK10
import Derived.Test.YtoaefniopgmoaaaDoorK9
namespace Go.Bu
def sel (b : Bool) (x y : Option (AV × List (Nat × Blk))) : Option (AV × List (Nat × Blk)) := match b with | true => x | false => y
theorem post_tup {C : Ctx} {N : Nat} {S : St} {t u : Nat} {x y r q : AV} (h : look S.tm t = some x) (h2 : look S.tm u = some y) (hs : simR (fun _ => none) x r) (hs2 : simR (fun _ => none) y q) (htu : Nat.beq t u = false) (hn : noTups [r, q] = true := by rfl) : FunPost C N 0 [.tmp t, .tmp u] (.tup [r, q]) [] .ret S := by
 refine ⟨{ tm := [(t, r), (u, q)], hp := [], seen := [] }, .tup [r, q], ent_of [] rfl (tm_cons h hs (tm_cons h2 hs2 tm_nil)) hp_nil, by simp [resAV, resAll, resOne, look, Nat.beq_refl, htu, hn], fun _ _ _ _ h => h, fun id b hb => by cases hb⟩
theorem beq_dec (a b : Int) : (a == b) = decide (a = b) := by
 by_cases e : a = b <;> simp [e]
theorem half (n : Nat) (h : n < 2 ^ 63) : bShr .u64 (IntKind.wrap .u64 (n : Int)) 1 = ((n / 2 : Nat) : Int) := by
 have e1 : IntKind.wrap .u64 (n : Int) = (n : Int) := by
  simp [IntKind.wrap, IntKind.bits, IntKind.signed]
  omega
 rw [e1]
 unfold bShr
 simp only [IntKind.bits]
 show (n : Int).fdiv (2 ^ (min 1 64)) = _
 rw [Int.fdiv_eq_ediv_of_nonneg _ (by decide)]
 simp
theorem tw_len {α : Type} {p : α → Bool} {d : α} : ∀ {l : List α} {k : Nat}, k ≤ l.length → (∀ i, i < k → p (l.getD i d) = true) → (k < l.length → p (l.getD k d) = false) → (l.takeWhile p).length = k
 | [], k, hk, _, _ => by simp at hk; simp [hk]
 | x :: r, 0, _, _, h => by
  have := h (by simp)
  simp only [List.getD_cons_zero] at this
  simp [this]
 | x :: r, k + 1, hk, h1, h2 => by
  have h0 := h1 0 (by omega)
  simp only [List.getD_cons_zero] at h0
  rw [List.takeWhile_cons, if_pos h0, List.length_cons, tw_len (k := k) (d := d) (by simpa using hk) (fun i hi => by have := h1 (i + 1) (by omega); simpa using this) fun h => by have := h2 (by simp; omega); simpa using this]
theorem fun_zero {C : Ctx} {P : Program} {g : Nat} {ex : Bool} {e : Nat} {f : Nat → AV} {r : AV} {H' : List (Nat × Blk)} (h : ∀ q c, Fun C P g [.v (.slice q 0 c)] [] r H') : Fun C P g [.dat 0 ex e f] [] r H' := by
 intro ρ A w vs hlen hrv hH hAb hrb hgl
 match vs, hlen with
 | [v], _ =>
  have h0 := hrv 0 _ _ rfl rfl
  obtain ⟨q, c, rfl⟩ : ∃ q c, v = .slice q 0 c := by
   rcases h0 with ⟨_, hr⟩ | ⟨hl, _⟩
   ·generalize hvs : [v] = us at hr
    cases hr with
    | dat0 _ => exact ⟨_, _, (List.cons.inj hvs).1⟩
    | dat q hA hc _ hlen hq hr => exact ⟨_, _, (List.cons.inj hvs).1⟩
   ·cases hl
  refine h q c ρ A w [.slice q 0 c] rfl (fun i x v hx hv => ?_) hH hAb hrb hgl
  cases i with
  | zero => cases hx; cases hv; exact .inl ⟨rfl, .v rfl⟩
  | succ i => cases hx
theorem nm1 (l : List Nat) (id : Nat) (b : Blk) : namesOK [(id, 0)] 0 l [0] [(0, b)] = true := by
 simp only [namesOK, keysOf, distinct, memb, List.map, List.all_cons, List.all_nil, List.range_zero, Nat.beq_refl]
 cases memb l id <;> rfl
theorem post_row {C : Ctx} {N : Nat} {S : St} {t id n n' c c' m m' e : Nat} {ex : Bool} {g g' : Nat → AV} (h : look S.tm t = some (.sl id [] 0 n c ex e)) (hb : look S.hp id = some (.c (.arr m e g))) (hn : n = n') (h1 : n' ≤ c') (h2 : c' ≤ c) (hm : m = m') (hg : ∀ i, i < m → g i = g' i) :
  FunPost C N 0 [.tmp t] (.sl 0 [] 0 n' c' false e) [(0, .c (.arr m' e g'))] .ret S :=
 funPost_of (r' := .sl 0 [] 0 n' c' false e) (S2 := { tm := [(t, .sl 0 [] 0 n' c' false e)], hp := [(0, .c (.arr m' e g'))], seen := [0] }) (by simp) (ent_of [(id, 0)] (nm1 _ _ _) (tm_cons h (sm_sl (by simp [look, Nat.beq_refl]) hn (by omega) h2 (by simp)) tm_nil) (hp_cons rfl hb (sm_arr' hm hg) hp_nil)) (by simp [resAV, resAll, resOne, look, Nat.beq_refl])
  (.inr ⟨rfl, rfl, rfl, rfl, h1, Nat.le_refl _, by simp, rfl⟩) fun _ _ h => h
theorem post_row_nil {C : Ctx} {N : Nat} {S : St} {t e e' : Nat} {f g' : Nat → AV} (h : look S.tm t = some (.dat 0 true e f)) : FunPost C N 0 [.tmp t] (.sl 0 [] 0 0 0 false e') [(0, .c (.arr 0 e' g'))] .ret S :=
 funPost_of (r' := .sl 0 [] 0 0 0 false e') (S2 := { tm := [(t, .sl 0 [] 0 0 0 false e')], hp := [(0, .c (.arr 0 e' g'))], seen := [0] }) (by simp) (ent_of [] rfl (tm_cons h (sm_nil rfl rfl) tm_nil) (hp_new rfl rfl hp_nil)) (by simp [resAV, resAll, resOne, look, Nat.beq_refl])
  (.inr ⟨rfl, rfl, rfl, rfl, Nat.le_refl _, Nat.le_refl _, by simp, rfl⟩) fun _ _ h => h
theorem shp_lay {o m : Nat} {f g : Nat → AV} {z : AV} {k : Nat} (hf : shp (f k) z) (hg : shp (g (k - o)) z) : shp (lay o m f g k) z := by
 unfold lay
 split
 ·exact hf
 ·split
  ·exact hg
  ·exact hf
theorem one_id {b : Blk} (id : Nat) (h : look [(0, b)] id ≠ none) : id < 1 := by
 unfold look at h
 split at h
 ·rename_i e; have := beq_iff.1 e; omega
 ·exact absurd rfl h
theorem tw_spec {α : Type} (p : α → Bool) (d : α) : ∀ l : List α, (l.takeWhile p).length ≤ l.length ∧ (∀ k, k < (l.takeWhile p).length → p (l.getD k d) = true) ∧ ((l.takeWhile p).length < l.length → p (l.getD (l.takeWhile p).length d) = false)
 | [] => ⟨Nat.le_refl _, fun k hk => absurd hk (Nat.not_lt_zero k), fun h => absurd h (Nat.lt_irrefl _)⟩
 | y :: r => by
  have ih := tw_spec p d r
  cases e : p y with
  | false =>
   rw [List.takeWhile_cons_of_neg (by simp [e])]
   exact ⟨Nat.zero_le _, fun k hk => absurd hk (Nat.not_lt_zero k), fun _ => by simpa using e⟩
  | true =>
   rw [List.takeWhile_cons_of_pos e]
   simp only [List.length_cons]
   refine ⟨by omega, fun k hk => ?_, fun h => ?_⟩
   ·cases k with
    | zero => simpa using e
    | succ k => simpa using ih.2.1 k (by omega)
   ·simpa using ih.2.2 (by omega)
def insF (i : Nat) (x : AV) (f : Nat → AV) (k : Nat) : AV := if k < i then f k else if k = i then x else f (k - 1)
def firstOf : AV → AV
 | .st (x :: _) => x
 | .arr _ _ f => f 0
 | x => x
theorem two_id {b b1 : Blk} (id : Nat) (h : look [(0, b), (1, b1)] id ≠ none) : id < 2 := by
 simp only [look] at h
 split at h
 ·rename_i e; have := beq_iff.1 e; omega
 ·split at h
  ·rename_i e; have := beq_iff.1 e; omega
  ·exact absurd rfl h
theorem post_row2 {C : Ctx} {N : Nat} {S : St} {t id n n' c c' m m' e : Nat} {ex : Bool} {g g' : Nat → AV} (h : look S.tm t = some (.sl id [] 0 n c ex e)) (hb : look S.hp id = some (.c (.arr m e g))) (hn : n = n') (h1 : n' ≤ c') (h2 : c' ≤ c) (hm : m = m') (hg : ∀ i, i < m → g i = g' i)
  (hno : namesOK [(0, 0), (1, 1), (id, 2)] 2 S.seen [0, 1, 2] [(2, Blk.c (AV.arr m' e g'))] = true := by rfl) (hid : look [(0, 0), (1, 1), (id, 2)] id = some 2 := by rfl) : FunPost C N 2 [.tmp t] (.sl 2 [] 0 n' c' false e) [(2, .c (.arr m' e g'))] .ret S :=
 funPost_of (r' := .sl 2 [] 0 n' c' false e) (S2 := { tm := [(t, .sl 2 [] 0 n' c' false e)], hp := [(2, .c (.arr m' e g'))], seen := [0, 1, 2] }) (by simp) (ent_of [(0, 0), (1, 1), (id, 2)] hno (tm_cons h (sm_sl hid hn (by omega) h2 (by simp)) tm_nil) (hp_cons rfl hb (sm_arr' hm hg) hp_nil)) (by simp [resAV, resAll, resOne, look, Nat.beq_refl])
  (.inr ⟨rfl, rfl, rfl, rfl, h1, Nat.le_refl _, by simp, rfl⟩) fun _ _ h => h
theorem post_row20 {C : Ctx} {N : Nat} {S : St} {t n n' c c' m m' e : Nat} {ex : Bool} {g g' : Nat → AV} (h : look S.tm t = some (.sl 0 [] 0 n c ex e)) (hb : look S.hp 0 = some (.c (.arr m e g))) (hn : n = n') (h1 : n' ≤ c') (h2 : c' ≤ c) (hm : m = m') (hg : ∀ i, i < m → g i = g' i)
  (hno : namesOK [(0, 0), (1, 1)] 2 S.seen [0, 1] [(0, Blk.c (AV.arr m' e g'))] = true := by rfl) : FunPost C N 2 [.tmp t] (.sl 0 [] 0 n' c' false e) [(0, .c (.arr m' e g'))] .ret S :=
 funPost_of (r' := .sl 0 [] 0 n' c' false e) (S2 := { tm := [(t, .sl 0 [] 0 n' c' false e)], hp := [(0, .c (.arr m' e g'))], seen := [0, 1] }) (by simp) (ent_of [(0, 0), (1, 1)] hno (tm_cons h (sm_sl rfl hn (by omega) h2 (by simp)) tm_nil) (hp_cons rfl hb (sm_arr' hm hg) hp_nil)) (by simp [resAV, resAll, resOne, look, Nat.beq_refl])
  (.inr ⟨rfl, rfl, rfl, rfl, h1, Nat.le_refl _, by simp, rfl⟩) fun _ _ h => h
theorem ins_grow {n i k m : Nat} (g : Nat → AV) (z x : AV) (hi : i < n) (hk : k < n + 1) (hm : m = n + 1 - i) :
  lay (0 + (i + 1)) (min (n - i) (i + m - (i + 1))) (lay (0 + i) (min 1 (i + m - i)) (cat i (fun j => g (0 + j)) (fun _ => z)) (fun _ => x)) (fun j => g (0 + i + j)) k = insF i x g k := by
 unfold lay cat insF
 by_cases h1 : k < i
 ·rw [if_pos (by omega), if_pos (by omega), if_pos h1, if_pos h1]
  show g (0 + k) = _
  rw [Nat.zero_add]
 ·by_cases h2 : k = i
  ·rw [if_pos (by omega), if_neg (by omega), if_pos (by omega), if_neg h1, if_pos h2]
  ·rw [if_neg (by omega), if_pos (by omega), if_neg h1, if_neg h2]
   show g (0 + i + (k - (0 + (i + 1)))) = _
   rw [show 0 + i + (k - (0 + (i + 1))) = k - 1 by omega]
theorem ins_room {n i k : Nat} (g : Nat → AV) (x : AV) (hi : i < n) (hk : k < n + 1) :
  lay (0 + i) (min 1 (n + 1 - i)) (lay (0 + (i + 1)) (min (n + 1 - i) (n + 1 - (i + 1))) g (fun j => g (0 + i + j))) (fun _ => x) k = insF i x g k := by
 unfold lay insF
 by_cases h1 : k < i
 ·rw [if_pos (by omega), if_pos (by omega), if_pos h1]
 ·by_cases h2 : k = i
  ·rw [if_neg (by omega), if_pos (by omega), if_neg h1, if_pos h2]
  ·rw [if_neg (by omega), if_neg (by omega), if_neg (by omega), if_pos (by omega), if_neg h1, if_neg h2]
   show g (0 + i + (k - (0 + (i + 1)))) = _
   rw [show 0 + i + (k - (0 + (i + 1))) = k - 1 by omega]
theorem ins_cut {n i k : Nat} (f s : Nat → AV) (x : AV) (hi : i < n) (hk : k < n + 1) : insF i x (fun j => if j < n then f j else s j) k = insF i x f k := by
 unfold insF
 by_cases h1 : k < i
 ·rw [if_pos h1, if_pos h1]; show (if k < n then _ else _) = _; rw [if_pos (by omega)]
 ·by_cases h2 : k = i
  ·rw [if_neg h1, if_pos h2, if_neg h1, if_pos h2]
  ·rw [if_neg h1, if_neg h2, if_neg h1, if_neg h2]; show (if k - 1 < n then _ else _) = _; rw [if_pos (by omega)]
theorem shp_ite {c : Prop} [Decidable c] {x y z : AV} (h1 : shp x z) (h2 : shp y z) : shp (if c then x else y) z := by split <;> assumption
theorem shp_ite2 {c : Prop} [Decidable c] {x y z : AV} (h1 : shp z x) (h2 : shp z y) : shp z (if c then x else y) := by split <;> assumption
theorem shp_cat {n : Nat} {f g : Nat → AV} {z : AV} {k : Nat} (hf : shp (f k) z) (hg : shp (g (k - n)) z) : shp (cat n f g k) z := by unfold cat; split <;> assumption
theorem ins_end {n k : Nat} (g : Nat → AV) (x : AV) (hk : k < n + 1) : cat n (fun j => g (0 + j)) (fun _ => x) k = insF n x g k := by
 unfold cat insF
 by_cases h1 : k < n
 ·rw [if_pos h1, if_pos h1]; show g (0 + k) = _; rw [Nat.zero_add]
 ·rw [if_neg h1, if_neg h1, if_pos (by omega)]
theorem rep_cells {w : World} {A : Nat → Prop} {ρ : Ren} {e : Nat} {xs : List Value} (hl : xs.length = e) (hn : ∀ z, z ∈ xs → nota z = true) : Rep w A ρ (.arr e 1 fun j => .v (xs.getD j undef)) xs := by
 have hg : ∀ j, j < e → xs[j]? = some (xs.getD j undef) := fun j hj => by
  rw [List.getD_eq_getElem?_getD, List.getElem?_eq_getElem (by omega)]; rfl
 refine .arr (fun j => [xs.getD j undef]) (fun _ _ => rfl) (fun j hj => .v (hn _ (List.mem_of_getElem? (hg j hj)))) ?_
 apply List.ext_getElem?
 intro j
 by_cases hj : j < e
 ·obtain ⟨y1, y2, y3⟩ := flat_get (n := e) (e := 1) (g := fun j => [xs.getD j undef]) (fun _ _ => rfl) (k := j) (by omega)
  rw [y1, hg j hj, Nat.div_one, Nat.mod_one]; rfl
 ·rw [List.getElem?_eq_none (by omega), List.getElem?_eq_none (by rw [flat_len (e := 1) (fun _ _ => rfl)]; omega)]
theorem bnt {b : Bool} (h : (!b) = true) : b = false := by cases b <;> simp_all
theorem bnf {b : Bool} (h : (!b) = false) : b = true := by cases b <;> simp_all
theorem tf_no {b : Bool} (h : b = true) (h2 : b = false) : False := by rw [h] at h2; cases h2
theorem post_frz {C : Ctx} {N k : Nat} {rs : List ResultVar} {r : AV} {H' : List (Nat × Blk)} {e : Ex} {S : St} (L : List Nat) (h : FunPost C N k rs r H' e (S.freeze L)) : FunPost C N k rs r H' e S := by
 cases e with
 | exit j => exact h
 | normal => obtain ⟨S2, r', h1, h2⟩ := h; exact ⟨S2, r', (ent_freeze S L).trans h1, h2⟩
 | ret => obtain ⟨S2, r', h1, h2⟩ := h; exact ⟨S2, r', (ent_freeze S L).trans h1, h2⟩
theorem look_one {b : Blk} {q id : Nat} : look [(q, b)] id ≠ none ↔ id = q := by
 simp only [look]
 by_cases e0 : q = id
 ·subst e0; simp
 ·simp [beq_false e0]; omega
theorem post_cell_tmp {C : Ctx} {N : Nat} {S : St} {a t id b : Nat} {x r y q : AV} (h : look S.tm a = some (.ptr id [])) (hb : look S.hp id = some (.c x)) (hs : simR (look [(id, 0)]) x r) (hf : fitsT C t r = true)
  (h2 : look S.tm b = some y) (hs2 : simR (look [(id, 0)]) y q) (hab : Nat.beq a b = false) (hn : noTups [r, q] = true) : FunPost C N 0 [.cell a t, .tmp b] (.tup [r, q]) [] .ret S := by
 refine ⟨{ tm := [(a, .ptr 0 []), (b, q)], hp := [(0, .c r)], seen := [0] }, .tup [r, q], ent_of [(id, 0)] ?_ (tm_cons h (sm_ptr (by simp [look, Nat.beq_refl])) (tm_cons h2 hs2 tm_nil)) (hp_cons rfl hb hs hp_nil), by simp [resAV, resAll, resOne, look, Nat.beq_refl, AV.sub, hf, hab, hn], fun _ _ _ _ h => h, fun id b hb => by cases hb⟩
 simp only [namesOK, keysOf, distinct, memb, List.map, List.all_cons, List.all_nil, List.range_zero, Nat.beq_refl]
 cases memb S.seen id <;> rfl
end Go.Bu
namespace Go.Bu
theorem ent_short {C : Ctx} {N : Nat} {D : Dom} {k t id id' m c mm e : Nat} {ex : Bool} {F f : Nat → AV} {S : St} (ht : look S.tm t = some (.sl id [] 0 m c ex e)) (hb : look S.hp id = some (.c (.arr mm e F))) (hm : m ≤ mm) (hc : m ≤ c)
  (hf : ∀ i, i < m → F i = f i) (hk : k ≤ id') : Ent C N D k S { tm := [(t, .sl id' [] 0 m m false e)], hp := [(id', .c (.arr m e f))], seen := id' :: S.seen } := by
 intro hD ρ A a w h
 obtain ⟨ρ', hρ'⟩ : ∃ ρ' : Ren, ρ' = fun j => if j = id' then (ρ id).map (fun l => (⟨l.b, .arr m e f⟩ : Loc)) else ρ j := ⟨_, rfl⟩
 have h0 : ρ' id' = (ρ id).map (fun l => (⟨l.b, .arr m e f⟩ : Loc)) := by simp [hρ']
 have h1 : ∀ j, j ≠ id' → ρ' j = ρ j := fun j hj => by simp [hρ', hj]
 have h0r : ∀ l, ρ' id' = some l → ∃ l2, ρ id = some l2 ∧ l.b = l2.b := fun l hl => by
  rw [h0] at hl
  cases hq : ρ id with
  | none => rw [hq] at hl; cases hl
  | some l2 => rw [hq] at hl; cases hl; exact ⟨l2, rfl, rfl⟩
 have h0s : ∀ l, ρ id = some l → ρ' id' = some ⟨l.b, .arr m e f⟩ := fun l hl => by rw [h0, hl]; rfl
 have stay : ∀ j l, j < k → ρ j = some l → ρ' j = some l := fun j l hj hl => by rw [h1 j (by omega)]; exact hl
 have hl1 : ∀ (b : Blk) j, look [(id', b)] j ≠ none ↔ j = id' := fun b j => look_one
 have hid : look S.hp id ≠ none := by rw [hb]; simp
 refine ⟨ρ', A, ⟨fun s x hs => ?_, h.nt, ⟨h.df.each, h.df.diff, hD ρ ρ' A w h.df.ex stay, h.df.rc, h.df.bs⟩, ⟨fun j b hj => ?_, fun i j x y g1 g2 _ _ _ => by rw [(hl1 _ i).1 g1, (hl1 _ j).1 g2], fun j x g1 g2 => ?_⟩, h.Ab, fun j x hx => ?_, fun j hj => ?_, fun g x hg => ?_⟩, ?_, stay⟩
 ·have hst : s = t := by
   simp only [look] at hs
   split at hs
   ·rename_i hq; exact (beq_iff.1 hq).symm
   ·cases hs
  subst hst
  have : x = .sl id' [] 0 m m false e := by simp [look] at hs; exact hs.symm
  subst this
  obtain ⟨v, hv, hr⟩ := h.tm s _ ht
  refine ⟨v, hv, .of_leaf rfl ?_⟩
  have hr := hr.leaf rfl
  cases hr with
  | sl0 => exact .sl0
  | @sl _ _ _ _ _ _ _ _ kk rc hρ a1 a2 a3 a4 a5 =>
   have := Rep.sl (w := w) (A := A) (ρ := ρ') (id := id') (p := []) (o := 0) (n := m) (c := m) (ex := false) (e := e) (k := ⟨kk.b, .arr m e f⟩) (rc := rc) (h0s kk hρ) (Nat.le_refl _) (by omega) (by simp) (by simpa using row_arr _ _ _) (by simpa only [off_nil] using a5)
   simpa only [off_nil] using this
 ·obtain rfl := (hl1 _ j).1 (by rw [hj]; simp)
  have : b = .c (.arr m e f) := by simp [look] at hj; exact hj.symm
  subst this
  rcases h.hp.blk id _ hb with ⟨l, q1, q2, q3⟩ | ⟨q1, ee, ff, q2⟩
  ·exact .inl ⟨_, h0s l q1, blk_cut hm hf q2, fun t ht => by cases ht; exact .refl _⟩
  ·cases q2
   obtain rfl : m = 0 := by omega
   exact .inr ⟨by rw [h0, q1]; rfl, _, _, rfl⟩
 ·obtain rfl := (hl1 _ j).1 g1
  obtain ⟨l2, y1, y2⟩ := h0r x g2
  rw [y2]; exact h.hp.apart id l2 hid y1
 ·by_cases ej : j = id'
  ·subst ej
   obtain ⟨l2, y1, y2⟩ := h0r x hx
   exact ⟨by rw [y2]; exact (h.rb id l2 y1).1, by simp [memb]⟩
  ·rw [h1 j ej] at hx
   obtain ⟨g1, g2⟩ := h.rb j x hx
   refine ⟨g1, ?_⟩
   show memb (id' :: S.seen) j = true
   simp only [memb]
   split
   ·rfl
   ·exact g2
 ·obtain rfl := (hl1 _ j).1 hj
  simp [memb]
 ·rcases h.gl g x hg with ⟨q1, q2⟩ | ⟨q1, _⟩
  ·exact .inl ⟨rfl, q2.noid rfl ρ'⟩
  ·cases q1
 ·refine ⟨Nat.le_refl _, rfl, rfl, rfl, fun _ _ _ => rfl, fun _ c _ fz h => ⟨c, fz, h, rfl⟩, fun _ h => h, fun _ h => .inl h, fun b hb' => ?_⟩
  obtain ⟨j, x, g1, g2, g3⟩ := hb'
  obtain rfl := (hl1 _ j).1 g1
  obtain ⟨l2, y1, y2⟩ := h0r x g2
  exact .inl ⟨id, l2, hid, y1, by rw [← y2]; exact g3⟩
theorem post_short {C : Ctx} {N k : Nat} {t id id' m c mm e : Nat} {ex : Bool} {F f : Nat → AV} {S : St} (ht : look S.tm t = some (.sl id [] 0 m c ex e)) (hb : look S.hp id = some (.c (.arr mm e F))) (hm : m ≤ mm) (hc : m ≤ c) (hf : ∀ i, i < m → F i = f i) (hk : k ≤ id') :
  FunPost C N k [.tmp t] (.sl id' [] 0 m m false e) [(id', .c (.arr m e f))] .ret S :=
 ⟨{ tm := [(t, .sl id' [] 0 m m false e)], hp := [(id', .c (.arr m e f))], seen := id' :: S.seen }, .sl id' [] 0 m m false e, ent_short ht hb hm hc hf hk, by simp [resAV, resAll, resOne, look], fun _ _ _ _ h => h, fun _ _ h => h⟩
end Go.Bu
namespace Go.Bu
theorem post_ent {C : Ctx} {N k : Nat} {rs : List ResultVar} {r : AV} {H' : List (Nat × Blk)} {e : Ex} {S S1 : St} (he : ∀ {D : Dom}, Ent C N D k S S1) (h : FunPost C N k rs r H' e S1) : FunPost C N k rs r H' e S := by
 cases e with
 | exit j => exact h.elim
 | normal => obtain ⟨S2, r', h1, h2⟩ := h; exact ⟨S2, r', he.trans h1, h2⟩
 | ret => obtain ⟨S2, r', h1, h2⟩ := h; exact ⟨S2, r', he.trans h1, h2⟩
theorem ent_st {C : Ctx} {N : Nat} {D : Dom} {k id n e : Nat} {f : Nat → AV} {fs : List AV} {S : St} (hb : look S.hp id = some (.c (.arr n e f))) (hn : fs.length = n) (h0 : 0 < n) (he : e ≠ 1) (hs : sizesAll e fs = true) (hf : ∀ i x, nth? fs i = some x → f i = x) (hi : AV.noid.noids fs = true) :
  Ent C N D k S { S with hp := put S.hp id (.c (.st fs)) } := by
 intro hD ρ A a w h
 have hl : ∀ j, look (put S.hp id (Blk.c (.st fs))) j ≠ none ↔ look S.hp j ≠ none := fun j => by
  rw [look_put]
  split
  ·rename_i e1; subst e1; rw [hb]; simp
  ·exact Iff.rfl
 have hown : own ρ (put S.hp id (Blk.c (.st fs))) = own ρ S.hp := by
  funext b
  refine propext ⟨?_, ?_⟩ <;> rintro ⟨j, l, g1, g2, g3⟩
  ·exact ⟨j, l, (hl j).1 g1, g2, g3⟩
  ·exact ⟨j, l, (hl j).2 g1, g2, g3⟩
 refine ⟨ρ, A, ⟨h.tm, h.nt, h.df, ⟨fun j b hj => ?_, fun i j x y g1 g2 => h.hp.inj i j x y ((hl i).1 g1) ((hl j).1 g2), fun j x g1 => h.hp.apart j x ((hl j).1 g1)⟩, h.Ab, h.rb, fun j hj => h.sn j ((hl j).1 hj), h.gl⟩, ?_, fun _ _ _ h => h⟩
 ·have hj' : look (put S.hp id (Blk.c (.st fs))) j = some b := hj
  rw [look_put] at hj'
  split at hj'
  ·rename_i e1; subst e1
   cases hj'
   rcases h.hp.blk _ _ hb with ⟨l, q1, q2, q3⟩ | ⟨q1, ee, ff, q2⟩
   ·obtain ⟨cs, el, fz, vs, rest, e1, e2, e3, e4, e5⟩ := q2
    refine .inl ⟨l, q1, ⟨cs, el, fz, vs, rest, e1, ?_, e3, ?_, e5⟩, fun t ht => ?_⟩
    ·rcases e2 with e2 | ⟨_, e2⟩
     ·exact .inl e2
     ·unfold row1 at e2
      split at e2
      ·rename_i heq; cases heq; exact absurd rfl he
      ·cases e2
    ·cases e4 with
     | arr g g1 g2 g3 =>
      refine .st g (fun i x hx => ?_) (by rw [hn]; exact g3)
      have hlt : i < n := by
       rw [nth?_get] at hx
       have := (List.getElem?_eq_some_iff.1 hx).1
       omega
      have h2 := g2 i hlt
      rw [hf i x hx] at h2
      exact h2.noid (noids_nth hi i x hx) ρ
    ·cases ht
     refine (q3 _ rfl).trans ?_
     have := shape_st_arr hs hf
     rw [hn] at this
     exact this.symm
   ·cases q2; omega
  ·exact h.hp.blk j b hj'
 ·rw [hown]
  exact .refl _ _ _
end Go.Bu

