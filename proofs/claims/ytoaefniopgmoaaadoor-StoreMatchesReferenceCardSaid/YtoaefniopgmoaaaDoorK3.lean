/- Slices read as data; append; copy. -/
import Derived.Test.YtoaefniopgmoaaaDoorK2
import Derived.Laws.AppendOwn
namespace Go.Bu
section
variable {C : Ctx} {P : Program} {N : Nat} {D : Dom} {S : St} {ρ : Ren} {A : Nat → Prop} {a : Act} {w : World}
def Elems (w : World) (A : Nat → Prop) (q : Option Addr) (n e : Nat) (f : Nat → AV) : Prop :=
 n = 0 ∨ ∃ (b o : Nat) (g : Nat → List Value), q = some ⟨b, o, none⟩ ∧ (∀ i, i < n → (g i).length = e) ∧ (∀ i j, i < n → j < e → w.cell? ⟨b, o + (i * e + j), none⟩ = (g i)[j]?) ∧ ∀ i, i < n → Rep w A (fun _ => none) (f i) (g i)
theorem noids_mem {fs : List AV} (h : AV.noid.noids fs = true) : ∀ i x, nth? fs i = some x → x.noid = true := by
 induction fs with
 | nil => intro i x hx; cases i <;> cases hx
 | cons y r ih =>
  intro i x hx
  simp only [AV.noid.noids] at h
  split at h
  ·cases i with
   | zero => cases hx; assumption
   | succ i => exact ih h i x hx
  ·cases h
theorem sizesAll_mem {n : Nat} {fs : List AV} (h : sizesAll n fs = true) : ∀ i x, nth? fs i = some x → x.size = n := by
 induction fs with
 | nil => intro i x hx; cases i <;> cases hx
 | cons y r ih =>
  intro i x hx
  simp only [sizesAll] at h
  split at h
  ·cases i with
   | zero => cases hx; exact beq_iff.1 (by assumption)
   | succ i => exact ih h i x hx
  ·cases h
theorem nthD_nth? {α : Type} {l : List α} {i : Nat} {x d : α} (h : nth? l i = some x) : nthD l i d = x := by
 induction l generalizing i with
 | nil => cases i <;> cases h
 | cons y r ih =>
  cases i with
  | zero => cases h; rfl
  | succ i => exact ih h
theorem row_elems {t x : AV} {p : List Nat} {e k : Nat} {vs : List Value} {f : Nat → AV} (hs : t.sub p = some x) (hv : t.vp p) (hrow : t.row p e k) (hr : Rep w A ρ t vs)
    (hx : (∃ n f', x = .arr n e f' ∧ ∀ i, f i = f' i) ∨ (∃ fs d, x = .st fs ∧ AV.noid.noids fs = true ∧ sizesAll e fs = true ∧ ∀ i, f i = nthD fs i d)) :
    ∀ i, i < k → ∃ us, us.length = e ∧ Rep w A (fun _ => none) (f i) us ∧ ∀ j, j < e → vs[t.off p + (i * e + j)]? = us[j]? := by
  intro i hi
  obtain ⟨h1, h2⟩ := hrow i hi
  have h3 := (sub_vp p hs [i] hv).1 h1
  rcases hx with ⟨n, f', rfl, hf⟩ | ⟨fs, d, rfl, hn, hz, hf⟩
  · simp only [AV.vp, and_true] at h3
    have hsub : t.sub (p ++ [i]) = some (f' i) := by
      have key : ∀ (p : List Nat) {t : AV}, t.sub p = some (.arr n e f') → t.sub (p ++ [i]) = some (f' i) := by
        intro p
        induction p with
        | nil => intro t h; have e0 : t = .arr n e f' := by cases t <;> first | (simp [AV.sub] at h; done) | simpa [AV.sub] using h
                 subst e0; simp [AV.sub]
        | cons j p ih =>
          intro t h
          cases t <;> simp only [AV.sub, List.cons_append] at h ⊢ <;> try (cases h; done)
          · split at h
            · exact ih h
            · cases h
          · exact ih h
      exact key p hs
    obtain ⟨pre, us, post, e1, e2, e3⟩ := hr.part (p ++ [i]) h1 hsub
    obtain ⟨pre0, us0, post0, q1, q2, q3⟩ := hr.part p hv hs
    cases q3 with
    | arr g hl hg ee =>
      obtain ⟨pp, hp⟩ := flat_split h3 g
      refine ⟨g i, hl i h3, by rw [hf]; exact hg i h3, fun j hj => ?_⟩
      have hlen := flat_len (n := i) (e := e) (g := g) fun j hj => hl j (by omega)
      rw [q1, List.getElem?_append_right (by omega), ee, hp, List.append_assoc, List.getElem?_append_right (by omega), List.append_assoc, List.getElem?_append_left (by rw [hl i h3]; omega)]
      congr 1
      omega
  · simp only [AV.vp] at h3
    cases hy : nth? fs i with
    | none => rw [hy] at h3; exact h3.elim
    | some y =>
      obtain ⟨pre0, us0, post0, q1, q2, q3⟩ := hr.part p hv hs
      obtain ⟨pre, us, post, e1, e2, e3⟩ := st_part q3 hy
      have hsz := sizesAll_mem hz i y hy
      have hoff : AV.pre fs i = i * e := by
        have := sub_off p hs [i] hv
        rw [h2] at this
        simp [AV.off, hy] at this
        exact this.symm
      refine ⟨us, by rw [e3.len, hsz], by rw [hf, nthD_nth? hy]; exact e3.noid (noids_mem hn i y hy) _, fun j hj => ?_⟩
      rw [q1, List.getElem?_append_right (by omega), e1, List.append_assoc, List.getElem?_append_right (by omega), List.append_assoc, List.getElem?_append_left (by rw [e3.len, hsz]; omega)]
      congr 1
      omega
theorem vp_shape_row {x y : AV} (h : SameShape x y) {p : List Nat} {e n : Nat} (hv : x.vp p) (hr : x.row p e n) : y.row p e n := fun i hi => by
 obtain ⟨h1, h2⟩ := hr i hi
 exact ⟨(h.vp _).1 h1, by rw [← h.off _ h1, h2, h.off p hv]⟩
theorem row_vp {x : AV} {p : List Nat} {e n : Nat} (hr : x.row p e n) (hn : 0 < n) : x.vp p := by
 have key : ∀ (p : List Nat) {x : AV} {q : List Nat}, x.vp (p ++ q) → x.vp p := by
  intro p
  induction p with
  | nil => intro x q _; exact vp_nil x
  | cons i p ih =>
   intro x q h
   cases x <;> simp only [AV.vp, List.cons_append] at h ⊢ <;> try exact h
   ·split at h
    ·exact ih h
    ·exact h
   ·exact ⟨h.1, ih h.2⟩
 exact key p (hr 0 hn).1
theorem Rel.data (h : Rel C N D S ρ A a w) {x : AV} {v : Value} {n e : Nat} {f : Nat → AV} {rd : List Nat} (hd : dataOf S.hp x = some (n, e, f, rd)) (hr : RT w A ρ x v) :
  ∃ q c, v = .slice q n c ∧ n ≤ c ∧ Elems w A q n e f := by
 unfold dataOf at hd
 split at hd
 ·rename_i n ex e f
  cases hd
  have hr := hr.leaf rfl
  cases hr with
  | dat0 => exact ⟨_, _, rfl, Nat.zero_le _, .inl rfl⟩
  | dat g ha hc hex hl hm hr2 => exact ⟨_, _, rfl, hc, .inr ⟨_, _, g, rfl, hl, hm, hr2⟩⟩
 ·cases hd
  have hr := rep_v (hr.leaf rfl)
  exact ⟨_, _, hr, Nat.zero_le _, .inl rfl⟩
 ·rename_i id p o n c ex e
  split at hd
  ·rename_i t hb
   have hr := hr.leaf rfl
   have done : ∀ {x : AV} {f' : Nat → AV}, t.sub p = some x → (∀ i, f i = f' (o + i)) →
     ((∃ n f'', x = .arr n e f'' ∧ ∀ i, f' i = f'' i) ∨ (∃ fs d, x = .st fs ∧ AV.noid.noids fs = true ∧ sizesAll e fs = true ∧ ∀ i, f' i = nthD fs i d)) →
     ∃ q c, v = .slice q n c ∧ n ≤ c ∧ Elems w A q n e f := by
    intro x f' hs hff hx
    cases hr with
    | sl0 => exact ⟨_, _, rfl, Nat.le_refl _, .inl rfl⟩
    | sl hρ g1 g2 g3 g4 g5 =>
     rename_i k rc
     refine ⟨_, _, rfl, Nat.le_trans g1 g2, ?_⟩
     by_cases hn : n = 0
     ·exact .inl hn
     ·right
      obtain ⟨cs, el, fz, vs, rest, e1, e2, e3, e4, e5, hnr⟩ := h.block hb hρ
      have hvp := row_vp g4 (by omega)
      have hvp' := (e5.vp p).1 hvp
      have hrow := vp_shape_row e5 hvp g4
      have hel := row_elems (f := f') hs hvp' hrow e4 hx
      refine ⟨k.b, k.t.off p + o * e, fun i => if hi : o + i < o + c then Classical.choose (hel (o + i) hi) else [], rfl, fun i hi => ?_, fun i j hi hj => ?_, fun i hi => ?_⟩
      ·have hlt : o + i < o + c := by omega
       simp only [hlt, dif_pos]; exact (Classical.choose_spec (hel (o + i) hlt)).1
      ·have hlt : o + i < o + c := by omega
       simp only [hlt, dif_pos]
       have hsp := (Classical.choose_spec (hel (o + i) hlt)).2.2 j hj
       rw [← hsp]
       have hlen := (Classical.choose_spec (hel (o + i) hlt)).1
       have hsome : ∃ u, vs[t.off p + ((o + i) * e + j)]? = some u := by
        rw [hsp]; exact ⟨_, List.getElem?_eq_getElem (by rw [hlen]; exact hj)⟩
       obtain ⟨u, hu⟩ := hsome
       have hi' := (List.getElem?_eq_some_iff.1 hu).1
       have e7 : cs[t.off p + ((o + i) * e + j)]? = vs[t.off p + ((o + i) * e + j)]? := by
        rw [← Array.getElem?_toList, e3, List.getElem?_append_left hi']
       have e8 : k.t.off p + o * e + (i * e + j) = t.off p + ((o + i) * e + j) := by rw [e5.off p hvp, Nat.add_mul]; omega
       rw [e8]
       simp [World.cell?, e1, e7, hu]
      ·have hlt : o + i < o + c := by omega
       simp only [hlt, dif_pos]
       rw [hff]; exact (Classical.choose_spec (hel (o + i) hlt)).2.1
   split at hd
   ·rename_i k0 e' f0 hs
    split at hd
    ·rename_i hee
     obtain rfl := beq_iff.1 hee
     cases hd
     exact done hs (fun i => rfl) (.inl ⟨_, _, rfl, fun _ => rfl⟩)
    ·cases hd
   ·rename_i fs hs
    split at hd
    ·rename_i hn hz
     cases hd
     exact done (f' := fun i => nthD fs i (.v (.tuple #[]))) hs (fun i => rfl) (.inr ⟨_, _, rfl, hn, hz, fun _ => rfl⟩)
    ·cases hd
   ·cases hd
  ·cases hd
 ·cases hd
theorem flat_get {n e : Nat} {g : Nat → List Value} (hl : ∀ i, i < n → (g i).length = e) {k : Nat} (hk : k < n * e) : (flat n g)[k]? = (g (k / e))[k % e]? ∧ k / e < n ∧ k % e < e := by
 have he : 0 < e := by rcases Nat.eq_zero_or_pos e with h | h; simp [h] at hk; exact h
 have h1 : k / e < n := Nat.div_lt_of_lt_mul (by rw [Nat.mul_comm]; exact hk)
 have h2 := Nat.mod_lt k he
 refine ⟨?_, h1, h2⟩
 obtain ⟨pp, hp⟩ := flat_split h1 g
 have hlen := flat_len (n := k / e) (e := e) (g := g) fun j hj => hl j (by omega)
 have h3 := Nat.div_add_mod k e
 rw [Nat.mul_comm] at h3
 rw [hp, List.getElem?_append_right (by omega), List.getElem?_append_left (by rw [hl _ h1]; omega)]
 congr 1
 omega
end
end Go.Bu
namespace Go.Bu
section
variable {C : Ctx} {P : Program} {N : Nat} {D : Dom} {S : St} {ρ : Ren} {A : Nat → Prop} {a : Act} {w : World}
def drawnTo (w : World) (k : Nat) : World := { w with drawn := k }
theorem Keeps.drawn (w : World) (A : Nat → Prop) (ρ : Ren) (k : Nat) : Keeps w A ρ (drawnTo w k) A ρ := ⟨fun _ hb => ⟨hb, rfl⟩, fun _ _ h => h, fun _ c _ fz h => ⟨c, fz, h, rfl⟩⟩
theorem Rel.drawn (h : Rel C N D S ρ A a w) (k : Nat) : Rel C N D S ρ A a (drawnTo w k) := by
 have kp := Keeps.drawn w A ρ k
 refine ⟨fun t x hx => ?_, h.nt, ⟨h.df.each, h.df.diff, D.stab h.df.ex kp, h.df.rc, h.df.bs⟩, ⟨fun id b hb => ?_, h.hp.inj, h.hp.apart⟩, h.Ab, h.rb, h.sn, fun g x hg => (h.gl g x hg).keep kp⟩
 ·obtain ⟨v, hv, hr⟩ := h.tm t x hx; exact ⟨v, hv, hr.keep kp⟩
 ·rcases h.hp.blk id b hb with ⟨l, h1, h2, h3⟩ | h1
  ·refine .inl ⟨l, h1, ?_, h3⟩
   cases b with
   | m => exact h2.elim
   | c t => obtain ⟨cs, el, fz, vs, rest, e1, e2, e3, e4, e5⟩ := h2; exact ⟨cs, el, fz, vs, rest, e1, e2, e3, e4.keep kp, e5⟩
  ·exact .inr h1
theorem Done.drawn {e : Eff} {res : Result Next} {k : Nat} (h : Done S ρ A (drawnTo w k) e res) : Done S ρ A w e res := by
 obtain ⟨nx, v, ρ', A', w', h1, h2, h3, h4, h5, h6, h7, h8, h9⟩ := h
 exact ⟨nx, v, ρ', A', w', h1, h2, h3, h4, h5, h6, h7, h8, ⟨h9.size, h9.os, h9.tape, h9.output, h9.keep, h9.cells, h9.stay, h9.Anew, h9.Onew⟩⟩
theorem Done.empty (h : Rel C N D S ρ A a w) {e : Eff} {res : Result Next} {v : Value} {id k : Nat} {f : Nat → AV} (hf : memb S.seen id = false)
  (hres : res = .ok (.value v) w) (hw : e.wr = [(id, .c (.arr 0 k f))]) (hd : memb e.dead id = false) (hv : ∀ ρ', Keeps w A ρ w A ρ' → RT w A ρ' e.v v) : Done S ρ A w e res := by
 have hfr : ρ id = none := by
  cases hl : ρ id with
  | none => rfl
  | some l => have := (h.rb id l hl).2; rw [hf] at this; cases this
 have hhid : look (hpAfter S.hp e) id = some (.c (.arr 0 k f)) := by simp [hpAfter, hw, hd, putAll, look_dropAll, look_put]
 have hh : ∀ i k', i ≠ id → look (hpAfter S.hp e) i = some k' → look S.hp i = some k' := fun i k' hi hk' => by
  simp only [hpAfter, hw, putAll, look_dropAll, look_put] at hk'
  split at hk'
  ·cases hk'
  ·rwa [if_neg (Ne.symm hi)] at hk'
 have hne : ∀ i, i ≠ id → look (hpAfter S.hp e) i ≠ none → look S.hp i ≠ none := fun i hi hn => by
  cases hl : look (hpAfter S.hp e) i with
  | none => exact absurd hl hn
  | some k' => rw [hh i k' hi hl]; simp
 have hO : ∀ b, own ρ (hpAfter S.hp e) b → own ρ S.hp b ∨ w.heap.size ≤ b := by
  rintro b ⟨i, l, h1, h2, rfl⟩
  by_cases ei : i = id
  ·subst ei; rw [hfr] at h2; cases h2
  ·exact .inl ⟨i, l, hne i ei h1, h2, rfl⟩
 refine ⟨_, v, ρ, A, w, hres, .inl rfl, hv ρ ⟨fun _ h => ⟨h, rfl⟩, fun _ _ h => h, fun _ c _ fz h => ⟨c, fz, h, rfl⟩⟩, ⟨fun i k' hk' => ?_, fun i i' l l' h1 h2 h3 h4 hb => ?_, fun i l h1 h2 => ?_⟩, fun _ _ h => h, fun i l hl => ?_, h.Ab, fun i hi => ?_, ?_⟩
 ·by_cases ei : i = id
  ·subst ei; rw [hhid] at hk'; cases hk'; exact .inr ⟨hfr, _, _, rfl⟩
  ·exact h.hp.blk i k' (hh i k' ei hk')
 ·by_cases ei : i = id
  ·subst ei; rw [hfr] at h3; cases h3
  ·by_cases ei' : i' = id
   ·subst ei'; rw [hfr] at h4; cases h4
   ·exact h.hp.inj i i' l l' (hne i ei h1) (hne i' ei' h2) h3 h4 hb
 ·by_cases ei : i = id
  ·subst ei; rw [hfr] at h2; cases h2
  ·exact h.hp.apart i l (hne i ei h1) h2
 ·obtain ⟨h1, h2⟩ := h.rb i l hl; exact ⟨h1, memb_addSeen.2 (.inl h2)⟩
 ·by_cases ei : i = id
  ·subst ei; exact memb_addSeen.2 (.inr ⟨_, by rw [hw]; exact List.mem_cons_self⟩)
  ·exact memb_addSeen.2 (.inl (h.sn i (hne i ei hi)))
 ·exact ⟨Nat.le_refl _, rfl, rfl, rfl, fun _ _ _ => rfl, fun _ c _ fz h => ⟨c, fz, h, rfl⟩, fun _ h => h, fun _ h => .inl h, hO⟩
theorem Done.move (h : Rel C N D S ρ A a w) {e : Eff} {res : Result Next} {id id' : Nat} {l : Loc} {t t' : AV} {cs cs' : Array Value} {el : TypeId} {fz : Nat × Nat} {vs' rest : List Value} {v : Value}
  (hf : memb S.seen id' = false) (hl : look S.hp id = some (.c t)) (hρ : ρ id = some l) (hb : w.heap[l.b]? = some (.cells cs el fz)) (hfz : fz.1 = fz.2 ∨ (cs.size ≤ fz.1 ∧ row1 t = true)) (hs : cs'.size = cs.size)
  (hc : cs'.toList = vs' ++ rest) (hr : Rep w A ρ t' vs') (hnr : ∀ x, x ∈ rest → nota x = true) (h1r : row1 t = true → row1 t' = true)
  (hres : res = .ok (.value v) (setBlk w l.b (.cells cs' el fz))) (hw : e.wr = [(id', .c t')]) (hd : e.dead = [id])
  (hv : ∀ ρ', ρ' id' = some ⟨l.b, t'⟩ → Keeps w A ρ (setBlk w l.b (.cells cs' el fz)) A ρ' → RT (setBlk w l.b (.cells cs' el fz)) A ρ' e.v v) : Done S ρ A w e res := by
 have hfr : ∀ l, ρ id' ≠ some l := fun l hl => by have := (h.rb id' l hl).2; rw [hf] at this; cases this
 have hne0 : id' ≠ id := fun e => hfr l (e ▸ hρ)
 obtain ⟨ρ', hρ'⟩ : ∃ ρ' : Ren, ρ' = fun i => if i = id' then some ⟨l.b, t'⟩ else ρ i := ⟨_, rfl⟩
 have hid : ρ' id' = some ⟨l.b, t'⟩ := by simp [hρ']
 have hother : ∀ i, i ≠ id' → ρ' i = ρ i := fun i hi => by simp [hρ', hi]
 have hext : ∀ i l, ρ i = some l → ρ' i = some l := fun i l hl => by rw [hother i fun e => hfr l (e ▸ hl)]; exact hl
 have hhid : look (hpAfter S.hp e) id' = some (.c t') := by
  simp [hpAfter, hw, hd, putAll, look_dropAll, look_put, memb, beq_false (Ne.symm hne0)]
 have hgone : look (hpAfter S.hp e) id = none := by simp [hpAfter, hw, hd, putAll, look_dropAll, memb, Nat.beq_refl]
 have hh : ∀ i k', i ≠ id' → look (hpAfter S.hp e) i = some k' → look S.hp i = some k' := fun i k' hi hk' => by
  simp only [hpAfter, hw, putAll, look_dropAll, look_put] at hk'
  split at hk'
  ·cases hk'
  ·rwa [if_neg (Ne.symm hi)] at hk'
 have hne : ∀ i, i ≠ id' → look (hpAfter S.hp e) i ≠ none → look S.hp i ≠ none ∧ i ≠ id := fun i hi hn => by
  cases hl2 : look (hpAfter S.hp e) i with
  | none => exact absurd hl2 hn
  | some k' => exact ⟨by rw [hh i k' hi hl2]; simp, fun ei => by rw [ei, hgone] at hl2; cases hl2⟩
 have hO : ∀ b, own ρ' (hpAfter S.hp e) b → own ρ S.hp b ∨ w.heap.size ≤ b := by
  rintro b ⟨i, l1, h1, h2, rfl⟩
  by_cases ei : i = id'
  ·subst ei; rw [hid] at h2; cases h2; exact .inl ⟨id, l, by rw [hl]; simp, hρ, rfl⟩
  ·rw [hother i ei] at h2; exact .inl ⟨i, l1, (hne i ei h1).1, h2, rfl⟩
 have evo : Evo w A (own ρ S.hp) (setBlk w l.b (.cells cs' el fz)) A (own ρ' (hpAfter S.hp e)) := .set w A _ _ hb hs ⟨id, l, by rw [hl]; simp, hρ, rfl⟩ hO
 have kp := h.keeps evo hext
 have apb : ∀ i l1, look S.hp i ≠ none → i ≠ id → ρ i = some l1 → l1.b ≠ l.b := fun i l1 h1 h2 h3 h4 => h2 (h.hp.inj i id l1 l h1 (by rw [hl]; simp) h3 hρ h4)
 refine ⟨_, v, ρ', A, _, hres, .inl rfl, hv ρ' hid kp, ⟨fun i k' hk' => ?_, fun i i' l1 l2 h1 h2 h3 h4 hb => ?_, fun i l1 h1 h2 => ?_⟩, hext, fun i l1 hl1 => ?_, fun b hb => Nat.lt_of_lt_of_le (h.Ab b hb) evo.size, fun i hi => ?_, evo⟩
 ·by_cases ei : i = id'
  ·subst ei; rw [hhid] at hk'; cases hk'
   exact .inl ⟨_, hid, ⟨cs', el, fz, vs', rest, setBlk_same hb, hfz.imp_right fun q => ⟨by omega, h1r q.2⟩, hc, hr.keep kp, hnr⟩, fun t'' ht => by cases ht; exact .refl _⟩
  ·have hk2 := hh i k' ei hk'
   have hni := (hne i ei (by rw [hk']; simp)).2
   rcases h.hp.blk i k' hk2 with ⟨l1, h1, h2, h3⟩ | ⟨h1, h2⟩
   ·refine .inl ⟨l1, hext i l1 h1, ?_, h3⟩
    cases k' with
    | m => exact h2.elim
    | c t0 =>
     obtain ⟨cs0, el0, fz0, vs0, rest0, e1, e2, e3, e4, e5⟩ := h2
     exact ⟨cs0, el0, fz0, vs0, rest0, by rw [setBlk_other (apb i l1 (by rw [hk2]; simp) hni h1)]; exact e1, e2, e3, e4.keep kp, e5⟩
   ·exact .inr ⟨by rw [hother i ei]; exact h1, h2⟩
 ·by_cases ei : i = id' <;> by_cases ei' : i' = id'
  ·rw [ei, ei']
  ·subst ei; rw [hid] at h3; cases h3; rw [hother i' ei'] at h4
   obtain ⟨h5, h6⟩ := hne i' ei' h2
   exact absurd hb.symm (apb i' l2 h5 h6 h4)
  ·subst ei'; rw [hid] at h4; cases h4; rw [hother i ei] at h3
   obtain ⟨h5, h6⟩ := hne i ei h1
   exact absurd hb (apb i l1 h5 h6 h3)
  ·rw [hother i ei] at h3; rw [hother i' ei'] at h4
   exact h.hp.inj i i' l1 l2 (hne i ei h1).1 (hne i' ei' h2).1 h3 h4 hb
 ·by_cases ei : i = id'
  ·subst ei; rw [hid] at h2; cases h2; exact h.hp.apart id l (by rw [hl]; simp) hρ
  ·rw [hother i ei] at h2; exact h.hp.apart i l1 (hne i ei h1).1 h2
 ·by_cases ei : i = id'
  ·subst ei; rw [hid] at hl1; cases hl1
   exact ⟨Nat.lt_of_lt_of_le (h.rb id l hρ).1 evo.size, memb_addSeen.2 (.inr ⟨.c t', by rw [hw]; exact List.mem_cons_self⟩)⟩
  ·rw [hother i ei] at hl1; obtain ⟨h1, h2⟩ := h.rb i l1 hl1; exact ⟨Nat.lt_of_lt_of_le h1 evo.size, memb_addSeen.2 (.inl h2)⟩
 ·by_cases ei : i = id'
  ·subst ei; exact memb_addSeen.2 (.inr ⟨.c t', by rw [hw]; exact List.mem_cons_self⟩)
  ·exact memb_addSeen.2 (.inl (h.sn i (hne i ei hi).1))
theorem growBy_le (n : Nat) : ∀ (r c : Nat), c ≤ n + (n + 768) / 4 → Builtin.growBy n r c ≤ n + (n + 768) / 4
 | 0, c, h => h
 | r + 1, c, h => by
  simp only [Builtin.growBy]
  split
  ·exact h
  ·exact growBy_le n r _ (by omega)
theorem nextcap_le {n c : Nat} (h : c < n) : Builtin.nextslicecap n c ≤ 2 * n := by
 unfold Builtin.nextslicecap
 split
 ·omega
 ·split
  ·omega
  ·have := growBy_le n 4 c (by omega)
   omega
def Takes (C : Ctx) (P : Program) (t1 et : Nat) (w : World) (y : Value) (m : Nat) (new : Array Value) : Prop :=
 (((∃ e1, P.underlying t1 = some (.slice e1)) ∨ P.underlying t1 = some .string) ∧ (Builtin.lenOf y).run P w = .ok m w ∧ ∀ d, (Builtin.firstCells (C.tt et).size m y).run P (drawnTo w d) = .ok new (drawnTo w d)) ∨
 ((∃ k1, P.underlying t1 = some (.int k1)) ∧ y = .int .i64 m ∧ m ≤ 9223372036854775807 ∧ m * (C.tt et).bytes ≤ 281474976710656 ∧ ∃ z, (∀ w, (zeroValue et).run P w = .ok z w) ∧ new = if m * (C.tt et).size = 0 then #[] else Builtin.zeroCells z.cells m)
theorem zeroCells_nota {zs : Array Value} (h : ∀ y, y ∈ zs.toList → nota y = true) (k : Nat) : ∀ y, y ∈ (Builtin.zeroCells zs k).toList → nota y = true := by
 intro y hy
 refine h y ?_
 simp [Builtin.zeroCells] at hy
 obtain ⟨a, ha, rfl⟩ := hy
 have hs : a % zs.size < zs.size := Nat.mod_lt _ (Nat.pos_of_ne_zero fun e => by rw [e] at ha; simp at ha)
 rw [getElem!_pos zs _ hs]
 simp
theorem run_append_grow (K : CtxOK C P) {ts : Array TypeId} {t0 t1 et ty : Nat} (h0 : ts[0]? = some t0) (h1 : ts[1]? = some t1) (hd : P.underlying t0 = some (.slice et))
  (hk : (C.tt et).d.known = true) (hb1 : 1 ≤ (C.tt et).bytes) {base : Option Addr} {n sc m : Nat} {x : Value} {old new : Array Value} (hx : Takes C P t1 et w x m new)
  (hold : ∀ k, (Builtin.firstCells (C.tt et).size n (.slice base n sc)).run P (drawnTo w k) = .ok old (drawnTo w k))
  (hneed : sc < n + m) (hbytes : (n + m) * (C.tt et).bytes ≤ 140737488355328) :
  ∃ (nc : Nat) (rest : Array Value) (k : Nat), n + m ≤ nc ∧ rest.size = (nc - (n + m)) * (C.tt et).size ∧ (∀ y, y ∈ rest.toList → nota y = true) ∧
   (Builtin.append_ ts ty #[.slice base n sc, x]).run P w = .ok (.slice (some ⟨w.heap.size, 0, none⟩) (n + m) nc) (pushed (drawnTo w k) (.cells (old ++ new ++ rest) et)) := by
 obtain ⟨i, z, i1, i2, i3, i4, i5, i6⟩ := K.info et hk
 have hne : n + m ≤ 140737488355328 := Nat.le_trans (Nat.le_mul_of_pos_right _ hb1) hbytes
 have hcap := Nat.mul_le_mul_right (C.tt et).bytes (nextcap_le hneed)
 have hcap2 : Builtin.nextslicecap (n + m) sc * (C.tt et).bytes ≤ 281474976710656 := by rw [Nat.mul_assoc] at hcap; omega
 have hzsz : z.cells.size = (C.tt et).size := by
  have h1 := (i5 w (fun _ => False) (fun _ => none)).cells.len
  rw [fits_size i6, Array.length_toList] at h1
  exact h1
 have hq : (Question.appendCap (n + m) sc et).forced = false := rfl
 refine ⟨(Question.appendCap (n + m) sc et).cut (w.tape w.drawn (.appendCap (n + m) sc et)), Builtin.zeroCells z.cells ((Question.appendCap (n + m) sc et).cut (w.tape w.drawn (.appendCap (n + m) sc et)) - (n + m)), w.drawn + 1, by simp [Question.cut], by simp [Builtin.zeroCells, hzsz], zeroCells_nota (fun y hy => (i5 w (fun _ => False) (fun _ => none)).cells.nota y hy) _, ?_⟩
 have hsz : ∀ w, (sizeOf et).run P w = .ok (C.tt et).size w := fun w => run_sizeOf K hk
 have hti : ∀ w, (typeInfo et).run P w = .ok i w := fun w => run_info i1
 have hzv : ∀ w, (zeroValue et).run P w = .ok z w := fun w => by simp [zeroValue, typeInfo, i1, i4]
 have hold' : (Builtin.firstCells (C.tt et).size n (.slice base n sc)).run P w.drew = .ok old w.drew := hold (w.drawn + 1)
 have h64 : ¬ ((9223372036854775807 : Int) < (n : Int) + (m : Int)) := by omega
 have h48 : ¬ (281474976710656 < Builtin.nextslicecap (n + m) sc * i.bytes) := by rw [i3]; omega
 have h3 := Nat.not_le.2 hneed
 unfold Builtin.append_
 rcases hx with ⟨hz, hx, hnew⟩ | ⟨⟨k1, hz1⟩, rfl, hm, hmb, z', hz', hnew⟩
 ·have hnew' : (Builtin.firstCells (C.tt et).size m x).run P w.drew = .ok new w.drew := hnew (w.drawn + 1)
  rcases hz with ⟨e1, hz1⟩ | hz1
  ·simp [h0, h1, run_underlying hd, run_underlying hz1, hsz, hx, h3, hti, h64, h48, hq, hold', hnew', hzv, newRow, pushed, drawnTo]
   rfl
  ·simp [h0, h1, run_underlying hd, run_underlying hz1, hsz, hx, h3, hti, h64, h48, hq, hold', hnew', hzv, newRow, pushed, drawnTo]
   rfl
 ·have hw : IntKind.wrap .i64 (m : Int) = (m : Int) := by
   simp [IntKind.wrap, IntKind.bits, IntKind.signed]
   omega
  have hn0 : ¬ ((m : Int) < 0) := by omega
  have hb0 : ¬ (281474976710656 < (m : Int) * (i.bytes : Int)) := by
   rw [i3, ← Int.natCast_mul]
   exact fun hh => absurd (Int.ofNat_lt.1 (show ((281474976710656 : Nat) : Int) < _ from hh)) (Nat.not_lt.2 hmb)
  subst hnew
  have happ : (if m * (C.tt et).size = 0 then (pure #[] : Sem (Array Value)) else do pure (Builtin.zeroCells (← zeroValue et).cells m)).run P w.drew = .ok (if m * (C.tt et).size = 0 then #[] else Builtin.zeroCells z'.cells m) w.drew := by
   split
   ·simp
   ·simp [hz']
  obtain rfl : z = z' := by
   have e := hz' w
   rw [hzv w] at e
   injection e
  by_cases e : m * (C.tt et).size = 0
  ·simp [h0, h1, run_underlying hd, run_underlying hz1, hsz, asInt, asIntOf, hw, hn0, hb0, h3, hti, h64, h48, hq, hold', e, hzv, newRow, pushed, drawnTo]
   rfl
  ·simp [h0, h1, run_underlying hd, run_underlying hz1, hsz, asInt, asIntOf, hw, hn0, hb0, h3, hti, h64, h48, hq, hold', e, hzv, newRow, pushed, drawnTo]
   rfl
theorem run_append_room (K : CtxOK C P) {ts : Array TypeId} {t0 t1 et ty : Nat} (h0 : ts[0]? = some t0) (h1 : ts[1]? = some t1) (hd : P.underlying t0 = some (.slice et))
  (hk : (C.tt et).d.known = true) {base : Option Addr} {n sc m : Nat} {x : Value} {new : Array Value} (hx : Takes C P t1 et w x m new)
  (hroom : n + m ≤ sc) {w' : World}
  (hst : ∀ q, base = some q → (storeCells (q.add (n * (C.tt et).size)) new.toList).run P w = .ok () w') (hno : base = none → w' = w) :
  (Builtin.append_ ts ty #[.slice base n sc, x]).run P w = .ok (.slice base (n + m) sc) w' := by
 have hsz : (sizeOf et).run P w = .ok (C.tt et).size w := run_sizeOf K hk
 obtain ⟨i, z, i1, i2, i3, i4, i5, i6⟩ := K.info et hk
 have hti : ∀ w, (typeInfo et).run P w = .ok i w := fun w => run_info i1
 have hnw : ∀ {w : World}, w = drawnTo w w.drawn := rfl
 unfold Builtin.append_
 rcases hx with ⟨hz, hx, hnew⟩ | ⟨⟨k1, hz1⟩, rfl, hm, hmb, z', hz', hnew⟩
 ·have hnew : (Builtin.firstCells (C.tt et).size m x).run P w = .ok new w := hnew w.drawn
  cases base with
  | none =>
   obtain rfl := hno rfl
   rcases hz with ⟨e1, hz1⟩ | hz1
   ·simp [h0, h1, run_underlying hd, run_underlying hz1, hsz, hx, hroom, hnew]
   ·simp [h0, h1, run_underlying hd, run_underlying hz1, hsz, hx, hroom, hnew]
  | some q =>
   have hs := hst q rfl
   rcases hz with ⟨e1, hz1⟩ | hz1
   ·simp [h0, h1, run_underlying hd, run_underlying hz1, hsz, hx, hroom, hnew, hs]
   ·simp [h0, h1, run_underlying hd, run_underlying hz1, hsz, hx, hroom, hnew, hs]
 ·have hw : IntKind.wrap .i64 (m : Int) = (m : Int) := by
   simp [IntKind.wrap, IntKind.bits, IntKind.signed]
   omega
  have hn0 : ¬ ((m : Int) < 0) := by omega
  have hb0 : ¬ (281474976710656 < (m : Int) * (i.bytes : Int)) := by
   rw [i3, ← Int.natCast_mul]
   exact fun hh => absurd (Int.ofNat_lt.1 (show ((281474976710656 : Nat) : Int) < _ from hh)) (Nat.not_lt.2 hmb)
  subst hnew
  have happ : (if m * (C.tt et).size = 0 then (pure #[] : Sem (Array Value)) else do pure (Builtin.zeroCells (← zeroValue et).cells m)).run P w = .ok (if m * (C.tt et).size = 0 then #[] else Builtin.zeroCells z'.cells m) w := by
   split
   ·simp
   ·simp [hz']
  cases base with
  | none =>
   obtain rfl := hno rfl
   by_cases e : m * (C.tt et).size = 0
   ·simp [h0, h1, run_underlying hd, run_underlying hz1, hsz, asInt, asIntOf, hw, hn0, hb0, hti, hroom, e]
   ·simp [h0, h1, run_underlying hd, run_underlying hz1, hsz, asInt, asIntOf, hw, hn0, hb0, hti, hroom, hz']
  | some q =>
   have hs := hst q rfl
   by_cases e : m * (C.tt et).size = 0
   ·rw [if_pos e] at hs
    have hs' : (storeCells (q.add (n * (C.tt et).size)) []).run P w = .ok () w' := hs
    simp [h0, h1, run_underlying hd, run_underlying hz1, hsz, asInt, asIntOf, hw, hn0, hb0, hti, hroom, e, hs']
   ·rw [if_neg e] at hs
    simp [h0, h1, run_underlying hd, run_underlying hz1, hsz, asInt, asIntOf, hw, hn0, hb0, hti, hroom, e, hz', hs]
theorem flat_add (n m : Nat) (g : Nat → List Value) : flat (n + m) g = flat n g ++ flat m (fun i => g (n + i)) := by
 induction m with
 | zero => simp [flat]
 | succ m ih => rw [← Nat.add_assoc, flat, ih, flat, List.append_assoc]
theorem flat_cat (n m : Nat) (g h : Nat → List Value) : flat (n + m) (fun i => if i < n then g i else h (i - n)) = flat n g ++ flat m h := by
 rw [flat_add, flat_congr (g := fun i => if i < n then g i else h (i - n)) (h := g) (n := n) fun i hi => by simp [hi]]
 congr 1
 exact flat_congr fun i _ => by simp [show ¬ (n + i < n) by omega]
theorem rep_cat {w : World} {A : Nat → Prop} {ρ : Ren} {n m e : Nat} {f h : Nat → AV} {g k : Nat → List Value} (hg : ∀ i, i < n → (g i).length = e) (hk : ∀ i, i < m → (k i).length = e)
  (rg : ∀ i, i < n → Rep w A (fun _ => none) (f i) (g i)) (rk : ∀ i, i < m → Rep w A (fun _ => none) (h i) (k i)) : Rep w A ρ (.arr (n + m) e (cat n f h)) (flat n g ++ flat m k) := by
 refine .arr (fun i => if i < n then g i else k (i - n)) (fun i hi => ?_) (fun i hi => ?_) (flat_cat n m g k).symm
 ·by_cases h1 : i < n
  ·simpa [h1] using hg i h1
  ·simpa [h1] using hk (i - n) (by omega)
 ·by_cases h1 : i < n
  ·simpa [h1, cat] using rg i h1
  ·simpa [h1, cat] using rk (i - n) (by omega)
theorem row_arr (n e : Nat) (f : Nat → AV) : (AV.arr n e f).row [] e n := fun i hi => by
 simp [AV.vp, AV.off, hi]
def Src (P : Program) (w : World) (A : Nat → Prop) (e : Nat) (y : Value) (m : Nat) (g : Nat → AV) : Prop :=
 (Builtin.lenOf y).run P w = .ok m w ∧ ∃ k : Nat → List Value, (∀ i, i < m → (k i).length = e) ∧ (∀ i, i < m → Rep w A (fun _ => none) (g i) (k i)) ∧ ∀ d m', m' ≤ m → (Builtin.firstCells e m' y).run P (drawnTo w d) = .ok (flat m' k).toArray (drawnTo w d)
theorem drawnTo_self (w : World) : drawnTo w w.drawn = w := rfl
theorem cell_drawn (w : World) (d : Nat) (x : Addr) : (drawnTo w d).cell? x = w.cell? x := rfl
theorem Elems.src {q : Option Addr} {n e c : Nat} {f : Nat → AV} (h : Elems w A q n e f) : Src P w A e (.slice q n c) n f := by
 rcases h with rfl | ⟨b, o, g0, rfl, q2, q3, q4⟩
 ·refine ⟨by simp [Builtin.lenOf], fun _ => [], fun i hi => by omega, fun i hi => by omega, fun d m' hm' => ?_⟩
  obtain rfl : m' = 0 := by omega
  cases q with
  | none => simp [Builtin.firstCells, flat]
  | some x => simp [Builtin.firstCells, loadCells, loadCellsFrom, flat]
 ·refine ⟨by simp [Builtin.lenOf], g0, q2, q4, fun d m' hm' => ?_⟩
  have q2' : ∀ i, i < m' → (g0 i).length = e := fun i hi => q2 i (by omega)
  have hh := run_loadCells_list (P := P) (drawnTo w d) ⟨b, o, none⟩ (flat m' g0) fun j v hj => by
   have hlt := (List.getElem?_eq_some_iff.1 hj).1
   rw [flat_len q2'] at hlt
   obtain ⟨p1, p2, p3⟩ := flat_get q2' hlt
   rw [p1] at hj
   rw [cell_drawn, addr_add, ← hj, ← q3 _ _ (by omega) p3]
   congr 2
   have h4 := Nat.div_add_mod j e
   rw [Nat.mul_comm] at h4
   omega
  rw [flat_len q2'] at hh
  simpa [Builtin.firstCells] using hh
end
end Go.Bu
namespace Go.Bu
section
variable {C : Ctx} {P : Program} {N : Nat} {D : Dom} {S : St} {ρ : Ren} {A : Nat → Prop} {a : Act} {w : World}
theorem shape_arrs {n e : Nat} {f g : Nat → AV} (hs : ∀ i, i < n → SameShape (f i) (g i)) : SameShape (.arr n e f) (.arr n e g) where
 size := rfl
 leaf := rfl
 vp p := by
  cases p with
  | nil => simp [AV.vp]
  | cons j p =>
   simp only [AV.vp]
   exact and_congr_right fun h => (hs j h).vp p
 off p hp := by
  cases p with
  | nil => rfl
  | cons j p =>
   simp only [AV.vp] at hp
   simp only [AV.off, (hs j hp.1).off p hp.2]
theorem row_write {t t' : AV} {p : List Nat} {k e o m : Nat} {f g : Nat → AV} {vs : List Value} {q : Nat → List Value} (hr : Rep w A ρ t vs) (hv : t.vp p) (hs : t.sub p = some (.arr k e f)) (hu : t.upd p (.arr k e (lay o m f g)) = some t') (hom : o + m ≤ k)
  (hq : ∀ i, i < m → (q i).length = e) (hg : ∀ i, i < m → Rep w A (fun _ => none) (g i) (q i)) (hsh : ∀ i, i < m → SameShape (f (o + i)) (g i)) :
  ∃ pre old post, vs = pre ++ (old ++ post) ∧ pre.length = t.off p + o * e ∧ old.length = (flat m q).length ∧ Rep w A ρ t' (pre ++ (flat m q ++ post)) ∧ SameShape t t' := by
 obtain ⟨pre, us, post, e1, e2, e3⟩ := Rep.part p hr hv hs
 cases e3 with
 | arr g0 hl hg0 e4 =>
  obtain ⟨G, hG⟩ : ∃ G : Nat → List Value, G = fun i => if i < o then g0 i else if i < o + m then q (i - o) else g0 i := ⟨_, rfl⟩
  have hz : Rep w A ρ (.arr k e (lay o m f g)) (flat k G) := by
   refine .arr G (fun i hi => ?_) (fun i hi => ?_) rfl
   ·rw [hG]; dsimp only; split
    ·exact hl i hi
    ·split
     ·exact hq _ (by omega)
     ·exact hl i hi
   ·rw [hG]; simp only [lay]; split
    ·exact hg0 i hi
    ·split
     ·exact hg _ (by omega)
     ·exact hg0 i hi
  have hss : SameShape (.arr k e f) (.arr k e (lay o m f g)) := shape_arrs fun i hi => by
   simp only [lay]; split
   ·exact .refl _
   ·split
    ·have := hsh (i - o) (by omega)
     rwa [show o + (i - o) = i by omega] at this
    ·exact .refl _
  obtain ⟨pre2, us2, post2, f1, f2, f3, f4, f5⟩ := Rep.set hz p hr hv hs hu hss
  have hGl : ∀ i, i < k → (G i).length = e := fun i hi => by
   rw [hG]; dsimp only; split
   ·exact hl i hi
   ·split
    ·exact hq _ (by omega)
    ·exact hl i hi
  have hlen : us.length = us2.length := by rw [f3, e4, flat_len hl, flat_len hGl]
  have hap := f1.symm.trans e1
  obtain ⟨r1, r2⟩ := List.append_inj hap (by rw [f2, e2])
  obtain ⟨r3, r4⟩ := List.append_inj r2 hlen.symm
  subst r1; subst r3; subst r4
  obtain ⟨r, rfl⟩ : ∃ r, k = o + m + r := ⟨k - (o + m), by omega⟩
  have s1 : us2 = flat o g0 ++ (flat m (fun i => g0 (o + i)) ++ flat r (fun i => g0 (o + m + i))) := by rw [e4, flat_add, flat_add, List.append_assoc]
  have s2 : flat (o + m + r) G = flat o g0 ++ (flat m q ++ flat r (fun i => g0 (o + m + i))) := by
   rw [flat_add, flat_add, List.append_assoc]
   rw [flat_congr (g := G) (h := g0) (n := o) fun i hi => by simp [hG, hi], flat_congr (g := fun i => G (o + i)) (h := q) (n := m) fun i hi => by simp [hG, hi, show ¬ (o + i < o) by omega],
    flat_congr (g := fun i => G (o + m + i)) (h := fun i => g0 (o + m + i)) (n := r) fun i hi => by simp [hG]; omega]
  refine ⟨pre2 ++ flat o g0, flat m (fun i => g0 (o + i)), flat r (fun i => g0 (o + m + i)) ++ post2, by rw [f1, s1]; simp, ?_, ?_, ?_, f5⟩
  ·rw [List.length_append, f2, flat_len fun i hi => hl i (by omega)]
  ·rw [flat_len (e := e) fun i hi => hl (o + i) (by omega), flat_len hq]
  ·rw [s2] at f4; simpa using f4
theorem upd_self : ∀ (p : List Nat) {t x t' : AV}, t.sub p = some x → t.upd p x = some t' → t' = t
 | [], t, x, t', hs, hu => by
  have e : t = x := by cases t <;> simpa [AV.sub] using hs
  have e' : x = t' := by cases t <;> simpa [AV.upd] using hu
  rw [← e', e]
 | i :: p, t, x, t', hs, hu => by
  have setSelf : ∀ (l : List AV) (i : Nat) (y : AV), nth? l i = some y → setAt l i y = l := by
   intro l
   induction l with
   | nil => intro i y h; rfl
   | cons z r ih =>
    intro i y h
    cases i with
    | zero => cases h; rfl
    | succ i => simp only [setAt]; rw [ih i y h]
  cases t <;> simp only [AV.sub, AV.upd] at hs hu <;> try (cases hs; done)
  ·rename_i fs
   split at hu
   ·rename_i z hz
    rw [hz] at hs
    split at hu
    ·rename_i z' hz'
     cases hu
     rw [upd_self p hs hz', setSelf fs i z hz]
    ·cases hu
   ·cases hu
  ·rename_i n e f
   split at hu
   ·rename_i z' hz' _
    cases hu
    have := upd_self p hs hz'
    subst this
    congr 1
    funext j
    split
    ·rename_i e; rw [e]
    ·rfl
   ·cases hu
theorem Done.same (h : Rel C N D S ρ A a w) {e : Eff} {res : Result Next} {v : Value} {id : Nat} {k : Blk} (hl : look S.hp id = some k) (hres : res = .ok (.value v) w) (hv : RT w A ρ e.v v) (hw : e.wr = [(id, k)]) (hd : e.dead = []) : Done S ρ A w e res := by
 have hh : ∀ i, look (hpAfter S.hp e) i = look S.hp i := fun i => by
  simp [hpAfter, hw, hd, putAll, look_dropAll, memb, look_put]
  intro e; rw [← e, hl]
 have ho : own ρ (hpAfter S.hp e) = own ρ S.hp := by funext b; simp only [own, hh]
 refine ⟨_, v, ρ, A, w, hres, .inl rfl, hv, ?_, fun _ _ h => h, ?_, h.Ab, ?_, ?_⟩
 ·exact ⟨fun id k hk => h.hp.blk id k (by rwa [hh] at hk), fun id id' l l' h1 h2 => h.hp.inj id id' l l' (by rwa [hh] at h1) (by rwa [hh] at h2), fun id l h1 => h.hp.apart id l (by rwa [hh] at h1)⟩
 ·exact fun i l hi => ⟨(h.rb i l hi).1, memb_addSeen.2 (.inl (h.rb i l hi).2)⟩
 ·intro i hi; rw [hh] at hi; exact memb_addSeen.2 (.inl (h.sn i hi))
 ·rw [ho]; exact .refl _ _ _
theorem write_row (P : Program) (h : Rel C N D S ρ A a w) {id o n c e s m k : Nat} {p : List Nat} {ex : Bool} {u : Value} {t t' : AV} {f g : Nat → AV} {q : Nat → List Value} (hx : RT w A ρ (.sl id p o n c ex e) u) (hl : look S.hp id = some (.c t))
  (hs : t.sub p = some (.arr k e f)) (hu : t.upd p (.arr k e (lay (o + s) m f g)) = some t') (hsc : s + m ≤ c) (hq : ∀ i, i < m → (q i).length = e) (hg : ∀ i, i < m → Rep w A (fun _ => none) (g i) (q i))
  (hsh : ∀ i, i < m → SameShape (f (o + s + i)) (g i)) :
  ∃ b rc w', u = .slice b n rc ∧ c ≤ rc ∧ (∀ n', n' ≤ c → Rep w A ρ (.sl id p o n' c ex e) [.slice b n' rc]) ∧ (∀ y, b = some y → (storeCells (y.add (s * e)) (flat m q)).run P w = .ok () w') ∧ (b = none → w' = w) ∧
   ∀ (E : Eff) (res : Result Next) (v : Value), E.wr = [(id, .c t')] → E.dead = [] → res = .ok (.value v) w' → (Keeps w A ρ w' A ρ → RT w' A ρ E.v v) → Done S ρ A w E res := by
 have hr := hx.leaf rfl
 cases hr with
 | sl0 =>
  rename_i b
  have hs0 : s = 0 := by omega
  have hm0 : m = 0 := by omega
  subst hs0; subst hm0
  have hlay : lay (o + 0) 0 f g = f := by funext i; simp only [lay]; split <;> simp_all
  rw [hlay] at hu
  have ht := upd_self p hs hu
  subst ht
  refine ⟨b, 0, w, rfl, Nat.le_refl _, fun n' hn' => ?_, fun y _ => by simp [flat, storeCells], fun _ => rfl, fun E res v hw hd hres hv => Done.same h hl hres (hv ⟨fun _ h => ⟨h, rfl⟩, fun _ _ h => h, fun _ c _ fz h => ⟨c, fz, h, rfl⟩⟩) hw hd⟩
  obtain rfl : n' = 0 := by omega
  exact .sl0
 | sl hρ w1 w2 w3 w4 w5 =>
  rename_i l rc
  obtain ⟨cs, el, fz, vs, rest, b1, b2, b3, b4, b5, hnr⟩ := h.block hl hρ
  by_cases hc0 : o + c = 0
  ·have hs0 : s = 0 := by omega
   have hm0 : m = 0 := by omega
   subst hs0; subst hm0
   have hlay : lay (o + 0) 0 f g = f := by funext i; simp only [lay]; split <;> simp_all
   rw [hlay] at hu
   have ht := upd_self p hs hu
   subst ht
   exact ⟨_, rc, w, rfl, w2, fun n' hn' => .sl hρ hn' w2 w3 w4 w5, fun y _ => by simp [flat, storeCells], fun _ => rfl, fun E res v hw hd hres hv => Done.same h hl hres (hv ⟨fun _ h => ⟨h, rfl⟩, fun _ _ h => h, fun _ c _ fz h => ⟨c, fz, h, rfl⟩⟩) hw hd⟩
  ·have hvpl := row_vp w4 (by omega)
   have hvp := (b5.vp p).1 hvpl
   have hrow := vp_shape_row b5 hvpl w4
   have hkc : o + c ≤ k := by
    have h1 := (hrow (o + c - 1) (by omega)).1
    have h2 := (sub_vp p hs [o + c - 1] hvp).1 h1
    simp only [AV.vp] at h2
    omega
   obtain ⟨pre, old, post, c1, c2, c3, c4, c5⟩ := row_write (o := o + s) b4 hvp hs hu (by omega) hq hg hsh
   have hcs : cs.toList = pre ++ (old ++ (post ++ rest)) := by rw [b3, c1]; simp
   obtain ⟨cs', s1, s2⟩ := run_store_block P (b := l.b) (o := l.t.off p + o * e + s * e) (el := el) (fz := fz) (flat m q) 0 (w := w) (cs := cs) pre old (post ++ rest) b1 (b2.imp_right And.left) hcs (by rw [c2, b5.off p hvpl, Nat.add_mul]; omega) c3 (by
    intro v hv
    exact (Rep.arr (w := w) (A := A) (ρ := ρ) (f := g) q hq hg rfl).nota v hv)
   have hslen : cs'.size = cs.size := by
    have e1 := congrArg List.length s2
    have e2 := congrArg List.length hcs
    simp only [List.length_append, Array.length_toList] at e1 e2
    omega
   refine ⟨_, rc, setBlk w l.b (.cells cs' el fz), rfl, w2, fun n' hn' => .sl hρ hn' w2 w3 w4 w5, fun y hy => ?_, fun hy => (Option.some_ne_none _ hy).elim, fun E res v hw hd hres hv => ?_⟩
   ·cases hy
    rw [addr_add]
    exact s1
   ·exact Done.set h hl hρ b1 b2 hslen (vs' := pre ++ (flat m q ++ post)) (rest := rest) (by rw [s2]; simp) c4 hnr c5 (upd_row1 p hs hu fun h => by unfold row1 at h ⊢; split at h <;> simp_all) hres (.inl rfl) hw hd hv
end
end Go.Bu
namespace Go.Bu
section
variable {C : Ctx} {P : Program} {N : Nat} {D : Dom} {S : St} {ρ : Ren} {A : Nat → Prop} {a : Act} {w : World}
theorem src_string (s : ByteArray) : Src P w A 1 (.string s) s.size (fun i => .v (.int .u8 (s.data.toList.getD i 0).toNat)) := by
 refine ⟨by simp [Builtin.lenOf], fun i => [.int .u8 (s.data.toList.getD i 0).toNat], fun _ _ => rfl, fun i _ => .v rfl, fun d m' hm' => ?_⟩
 have : ∀ n, n ≤ s.size → flat n (fun i => [Value.int .u8 (s.data.toList.getD i 0).toNat]) = ((s.data.toList.take n).map fun b => Value.int .u8 b.toNat) := by
  intro n
  induction n with
  | zero => intro _; simp [flat]
  | succ n ih =>
   intro hn
   have hlt : n < s.data.toList.length := by simp; omega
   rw [flat, ih (by omega), List.take_succ_eq_append_getElem hlt, List.map_append]
   simp only [List.getD, List.getElem?_eq_getElem hlt]
   rfl
 have h2 := this m' hm'
 rw [h2]
 simp only [Builtin.firstCells]
 show Result.ok _ _ = _
 congr 1
 apply Array.ext'
 simp [ByteArray.data_extract, List.extract_eq_take_drop]
structure AppT (C : Ctx) (P : Program) (ts : Array TypeId) (et : Nat) : Prop where
  t0 : ∃ t0, ts[0]? = some t0 ∧ P.underlying t0 = some (.slice et)
  known : (C.tt et).d.known = true
  bytes : 1 ≤ (C.tt et).bytes
theorem Done.ob {S : St} {ρ : Ren} {A : Nat → Prop} {w : World} {ef : Eff} {o : List Prop} {X : Result Next} (h : Done S ρ A w ef X) : Done S ρ A w { ef with ob := o } X := h
def SrcA (C : Ctx) (P : Program) (ts : Array TypeId) (et : Nat) (w : World) (A : Nat → Prop) (y : Value) (m : Nat) (g : Nat → AV) : Prop :=
 ∃ t1 k, ts[1]? = some t1 ∧ (∀ i, i < m → (k i : List Value).length = (C.tt et).size) ∧ (∀ i, i < m → Rep w A (fun _ => none) (g i) (k i)) ∧ Takes C P t1 et w y m (flat m k).toArray
theorem Src.toA {ts : Array TypeId} {t1 et : Nat} {w : World} {A : Nat → Prop} {y : Value} {m : Nat} {g : Nat → AV} (h1 : ts[1]? = some t1) (hz : (∃ e1, P.underlying t1 = some (.slice e1)) ∨ P.underlying t1 = some .string) (h : Src P w A (C.tt et).size y m g) : SrcA C P ts et w A y m g := by
 obtain ⟨hl, k, k1, k2, k3⟩ := h
 exact ⟨t1, k, h1, k1, k2, .inl ⟨hz, hl, fun d => k3 d m (Nat.le_refl _)⟩⟩
theorem zero_flat (z : Array Value) (e n : Nat) (he : z.size = e) : Builtin.zeroCells z n = (flat n (fun _ => z.toList)).toArray := by
 have hl : ∀ i, i < n → ((fun _ : Nat => z.toList) i).length = e := fun _ _ => by simpa using he
 apply Array.ext'
 apply List.ext_getElem?
 intro k
 by_cases hk : k < n * e
 ·obtain ⟨h1, h2, h3⟩ := flat_get hl hk
  simp only
  rw [h1]
  have hm : k % e < z.size := by omega
  simp only [Builtin.zeroCells, he, Array.toList_map, Array.toList_range, List.getElem?_map, List.getElem?_range hk, Option.map_some]
  rw [Array.getElem?_toList, Array.getElem?_eq_getElem hm, getElem!_pos z (k % e) hm]
 ·rw [List.getElem?_eq_none (by simp [Builtin.zeroCells, he]; omega), List.getElem?_eq_none (by simp only; rw [flat_len hl]; omega)]
theorem srcA_zeros (K : CtxOK C P) {ts : Array TypeId} {t1 et : Nat} {k1 : IntKind} {w : World} {A : Nat → Prop} {m : Nat} (h1 : ts[1]? = some t1) (hz : P.underlying t1 = some (.int k1)) (hk : (C.tt et).d.known = true) (hb : 1 ≤ (C.tt et).bytes) (hm : m * (C.tt et).bytes ≤ 140737488355328) :
  SrcA C P ts et w A (.int .i64 m) m (fun _ => zeroAV C.tt 9 et) := by
 obtain ⟨i, z, i1, i2, i3, i4, i5, i6⟩ := K.info et hk
 have hzc : ∀ (w : World) (A : Nat → Prop) (ρ : Ren), Rep w A ρ (zeroAV C.tt 9 et) z.cells.toList := fun w A ρ => (i5 w A ρ).cells
 have hzs : z.cells.size = (C.tt et).size := by
  have := (hzc w A (fun _ => none)).len
  rw [fits_size i6] at this
  simpa using this
 have hme : m ≤ 140737488355328 := Nat.le_trans (Nat.le_mul_of_pos_right _ hb) hm
 refine ⟨t1, fun _ => z.cells.toList, h1, fun _ _ => by simpa using hzs, fun _ _ => hzc _ _ _, .inr ⟨⟨k1, hz⟩, rfl, by omega, by omega, z, fun w => by simp [zeroValue, typeInfo, i1, i4], ?_⟩⟩
 have hf := zero_flat z.cells (C.tt et).size m hzs
 by_cases e : m * (C.tt et).size = 0
 ·rw [if_pos e]
  have : flat m (fun _ => z.cells.toList) = [] := by
   apply List.eq_nil_of_length_eq_zero
   rw [flat_len (e := (C.tt et).size) fun _ _ => by simpa using hzs, e]
  rw [this]
 ·rw [if_neg e, hf]
theorem zero_flat_list (z : Array Value) (e n : Nat) (he : z.size = e) : (Builtin.zeroCells z n).toList = flat n (fun _ => z.toList) := by rw [zero_flat z e n he]
theorem grow_done (K : CtxOK C P) (h : Rel C N D S ρ A a w) {ts : Array TypeId} {et ty : Nat} (ht : AppT C P ts et) {q : Option Addr} {n c m : Nat} {v : Value} {f g F : Nat → AV} {e : Eff} {id : Nat}
  (hel : Elems w A q n (C.tt et).size f) (hsrc : SrcA C P ts et w A v m g) (hlt : c < n + m) (hb : (n + m) * (C.tt et).bytes ≤ 140737488355328)
  (hF : ∀ {w' : World} {ρ' : Ren} (g0 k : Nat → List Value), (∀ i, i < n → (g0 i).length = (C.tt et).size) → (∀ i, i < m → (k i).length = (C.tt et).size) → (∀ i, i < n → Rep w' A (fun _ => none) (f i) (g0 i)) → (∀ i, i < m → Rep w' A (fun _ => none) (g i) (k i)) →
   Rep w' A ρ' (.arr (n + m) (C.tt et).size F) (flat n g0 ++ flat m k))
  (hf : memb S.seen id = false) (hv : e.v = .sl id [] 0 (n + m) (n + m) false (C.tt et).size) (hw : e.wr = [(id, .c (.arr (n + m) (C.tt et).size F))]) (hd : memb e.dead id = false) :
  Done S ρ A w e ((do pure (.value (← Builtin.append_ ts ty #[.slice q n c, v])) : Sem Next).run P w) := by
 obtain ⟨t0, h0, hd0⟩ := ht.t0
 obtain ⟨t1, k, h1, k1, k2, k3⟩ := hsrc
 obtain ⟨_, g0, g1, g2, g3⟩ := hel.src (P := P) (c := c)
 obtain ⟨nc, rest, dk, r1, r2, hrn, r3⟩ := run_append_grow (ty := ty) K h0 h1 hd0 ht.known ht.bytes k3 (fun d => g3 d n (Nat.le_refl _)) hlt hb
 refine Done.drawn (k := dk) (Done.new (v := .slice (some ⟨w.heap.size, 0, none⟩) (n + m) nc) (t := .arr (n + m) (C.tt et).size F) (h.drawn dk) hf (by simp [r3]; rfl) hw hd fun ρ' hid hext kp => ?_)
 have kd := Keeps.drawn w A (fun _ => none) dk
 have kn := kp.none
 refine ⟨⟨_, et, (0, 0), flat n g0 ++ flat m k, rest.toList, pushed_new _ _, .inl rfl, by simp, hF g0 k g1 k1 (fun i hi => ((g2 i hi).keep kd).keep kn) (fun i hi => ((k2 i hi).keep kd).keep kn), hrn⟩, fun t' htt => by cases htt; exact .refl _, ?_⟩
 rw [hv]
 refine .of_leaf rfl ?_
 have hsz : (flat n g0 ++ flat m k).length = (n + m) * (C.tt et).size := by rw [List.length_append, flat_len g1, flat_len k1, Nat.add_mul]
 have := Rep.sl (w := pushed (drawnTo w dk) (.cells ((flat n g0).toArray ++ (flat m k).toArray ++ rest) et)) (A := A) (p := []) (o := 0) (n := n + m) (c := n + m) (rc := nc) (ex := false) (e := (C.tt et).size) hid (Nat.le_refl _) r1 (fun hx => by cases hx)
  (by simpa using row_arr (n + m) (C.tt et).size F) ⟨_, et, (0, 0), pushed_new _ _, by
   simp only [off_nil, Nat.zero_add, Array.size_append, List.size_toArray, r2]
   rw [← List.length_append, hsz, ← Nat.add_mul]
   exact Nat.mul_le_mul_right _ (by omega)⟩
 have e0 : (flat n g0).toArray ++ (flat m k).toArray = (flat n g0 ++ flat m k).toArray := by simp
 simp only [off_nil, Nat.zero_mul, Nat.zero_add, e0] at this
 exact this
theorem append_done (K : CtxOK C P) (h : Rel C N D S ρ A a w) {ts : Array TypeId} {et ty d : Nat} {inpl : Bool} (ht : AppT C P ts et) {x : AV} {u v : Value} {m : Nat} {g : Nat → AV} {rd : List Nat} {e : Eff} (hx : RT w A ρ x u)
  (hsrc : SrcA C P ts et w A v m g) (he : appendEff S.hp S.seen d inpl (C.tt et).bytes (C.tt et).size x m g rd = some e) (hob : AllP e.ob) :
  Done S ρ A w e ((do pure (.value (← Builtin.append_ ts ty #[u, v])) : Sem Next).run P w) := by
 have room : ∀ {q : Option Addr} {n c : Nat}, m = 0 → n ≤ c → (Builtin.append_ ts ty #[.slice q n c, v]).run P w = .ok (.slice q (n + m) c) w := by
  intro q n c hm hc
  obtain ⟨t0, h0, hd0⟩ := ht.t0
  obtain ⟨t1, k, h1, k1, k2, k4⟩ := hsrc
  subst hm
  exact run_append_room K h0 h1 hd0 ht.known k4 (by omega) (fun q _ => by simp [flat]; rfl) (fun _ => rfl)
 unfold appendEff at he
 split at he
 ·rename_i n ex e0 f
  split at he
  ·rename_i id hid
   split at he
   ·rename_i hee
    obtain rfl := beq_iff.1 hee
    cases he
    have hb := hob _ (List.mem_cons_of_mem _ List.mem_cons_self)
    have hnm : n = 0 ∨ 0 < m := hob _ List.mem_cons_self
    obtain ⟨q, c, rfl, hc, hel⟩ := h.data (x := .dat n true (C.tt et).size f) (by simp [dataOf]; exact ⟨rfl, rfl, rfl, rfl⟩) hx
    have hcn : c = n := by
     have := hx.leaf rfl
     cases this with
     | dat0 hh => exact hh rfl
     | dat _ _ _ hh => exact hh rfl
    subst hcn
    by_cases hm : m = 0
    ·have hn : c = 0 := by omega
     subst hn
     have hz : 0 + m = 0 := by omega
     refine Done.empty h (newId_fresh hid) (v := .slice q (0 + m) 0) (by simp [room hm (Nat.le_refl _)]) (k := (C.tt et).size) (f := cat 0 f g) (by simp [hm]) rfl fun ρ' _ => .of_leaf rfl ?_
     rw [hz]; exact .sl0
    ·exact grow_done K h ht hel hsrc (by omega) hb (fun g0 k a1 a2 a3 a4 => rep_cat a1 a2 a3 a4) (newId_fresh hid) rfl rfl rfl
   ·split at he
    ·rename_i hn0
     obtain rfl := beq_iff.1 hn0
     cases he
     have hb := hob _ List.mem_cons_self
     have hu : ∃ q, u = .slice q 0 0 := by
      have := hx.leaf rfl
      cases this with
      | dat0 hh => obtain rfl := hh rfl; exact ⟨_, rfl⟩
      | dat _ _ _ hh => obtain rfl := hh rfl; exact ⟨_, rfl⟩
     obtain ⟨q, rfl⟩ := hu
     by_cases hm : m = 0
     ·subst hm
      exact Done.empty h (newId_fresh hid) (v := .slice q 0 0) (by simp [room rfl (Nat.le_refl _)]) rfl rfl fun ρ' _ => .of_leaf rfl .sl0
     ·have := grow_done (F := g) (ty := ty) (q := q) (n := 0) (c := 0) (f := g) (e := { v := .sl id [] 0 (0 + m) (0 + m) false (C.tt et).size, wr := [(id, .c (.arr (0 + m) (C.tt et).size g))], rd := rd, ob := [m * (C.tt et).bytes ≤ 140737488355328] })
       K h ht (.inl rfl) hsrc (by omega) (by rw [Nat.zero_add]; exact hb) (fun g0 k a1 a2 a3 a4 => by
        rw [Nat.zero_add]
        exact .arr k a2 a4 (by simp [flat])) (newId_fresh hid) rfl rfl rfl
      simpa only [Nat.zero_add] using this
    ·cases he
  ·cases he
 ·rename_i id p o n c ex e0
  split at he
  ·rename_i t hl hee
   obtain rfl := beq_iff.1 hee
   split at he
   ·split at he
    ·rename_i k e' f hs
     split at he
     ·rename_i t' hee hu
      obtain rfl := beq_iff.1 hee
      cases he
      have o1 : n + m ≤ c := hob _ List.mem_cons_self
      have o2 : ∀ i, i < m → shp (f (o + n + i)) (g i) := hob _ (List.mem_cons_of_mem _ List.mem_cons_self)
      obtain ⟨t0, h0, hd0⟩ := ht.t0
      obtain ⟨t1, q, h1, k1, k2, k4⟩ := hsrc
      obtain ⟨b, rc, w', rfl, hrc, hrep, hst, hno, hdone⟩ := write_row P h hx hl hs hu o1 k1 k2 fun i hi => shp_shape _ _ (o2 i hi)
      have hrun := run_append_room (ty := ty) (w' := w') K h0 h1 hd0 ht.known k4 (Nat.le_trans o1 hrc) hst hno
      exact hdone _ _ (.slice b (n + m) rc) rfl rfl (by simp only [Sem.run_bind, hrun, Result.andThen_ok]; rfl) fun kp => .of_leaf rfl ((hrep _ o1).keep kp)
     ·cases he
    ·cases he
   ·split at he
    ·rename_i n1 e1 f rd1 hdat
     split at he
     ·rename_i id' hid
      cases he
      have hb : (n + m) * (C.tt et).bytes ≤ 140737488355328 := hob _ (List.mem_append_right _ List.mem_cons_self)
      obtain ⟨q, rc, rfl, hc, hel⟩ := h.data hdat hx
      have hnn : n1 = n ∧ e1 = (C.tt et).size := by
       unfold dataOf at hdat
       simp only [hl] at hdat
       split at hdat
       ·split at hdat <;> cases hdat; exact ⟨rfl, rfl⟩
       ·split at hdat <;> cases hdat; exact ⟨rfl, rfl⟩
       ·cases hdat
      obtain ⟨rfl, rfl⟩ := hnn
      have hne : memb [id] id' = false := by
       have := newId_fresh hid
       have hs := h.sn id (by rw [hl]; simp)
       simp only [memb]
       rw [beq_false fun e => by rw [← e, hs] at this; cases this]
      generalize hei : (ex && inpl) = z at hob ⊢
      cases z with
      | true =>
       obtain ⟨rfl, rfl⟩ : ex = true ∧ inpl = true := by simpa using hei
       have hlt : c < n1 + m := hob _ (List.mem_append_left _ List.mem_cons_self)
       have hrc : rc = c := by
        have := hx.leaf rfl
        cases this with
        | sl0 => rfl
        | sl _ _ _ hh => exact hh rfl
       subst hrc
       exact grow_done K h ht hel hsrc hlt hb (fun g0 k a1 a2 a3 a4 => rep_cat a1 a2 a3 a4) (newId_fresh hid) rfl rfl rfl
      | false =>
       by_cases hroom : n1 + m ≤ rc
       ·-- in the same row
        have hr := hx.leaf rfl
        cases hr with
        | sl0 =>
         have hm : m = 0 := by omega
         have hz : 0 + m = 0 := by omega
         refine Done.empty h (newId_fresh hid) (v := .slice q (0 + m) 0) (by simp [room hm (Nat.le_refl _)]) (k := (C.tt et).size) (f := cat 0 f g) (by simp [hm]) hne fun ρ' _ => .of_leaf rfl ?_
         rw [hz]; exact .sl0
        | @sl _ _ _ _ _ _ _ _ l _ hρ w1 w2 w3 w4 w5 =>
         obtain ⟨t0, h0, hd0⟩ := ht.t0
         obtain ⟨t1, k, h1, k1, k2, k4⟩ := hsrc
         obtain ⟨cs, el, fz, vs, rest, b1, b2, b3, b4, b5, hnr⟩ := h.block hl hρ
         obtain ⟨cs0, el0, fz0, b6, b7⟩ := w5
         rw [b1] at b6; cases b6
         simp only [off_nil, Nat.zero_add, Nat.zero_mul] at b7 hel
         have hel2 : ∃ g0 : Nat → List Value, (∀ i, i < n1 → (g0 i).length = (C.tt et).size) ∧ (∀ i j, i < n1 → j < (C.tt et).size → w.cell? ⟨l.b, i * (C.tt et).size + j, none⟩ = (g0 i)[j]?) ∧ ∀ i, i < n1 → Rep w A (fun _ => none) (f i) (g0 i) := by
          rcases hel with hn0 | ⟨bb, oo, g0, hq, g1, g2, g3⟩
          ·exact ⟨fun _ => [], fun i hi => by omega, fun i j hi => by omega, fun i hi => by omega⟩
          ·cases hq; exact ⟨g0, g1, fun i j hi hj => by have := g2 i j hi hj; rwa [Nat.zero_add] at this, g3⟩
         obtain ⟨g0, g1, g2, g3⟩ := hel2
         have hsz : (n1 + m) * (C.tt et).size ≤ cs.size := Nat.le_trans (Nat.mul_le_mul_right _ hroom) b7
         rw [Nat.add_mul] at hsz
         have hpre : cs.toList.take (n1 * (C.tt et).size) = flat n1 g0 := by
          apply List.ext_getElem?
          intro j
          by_cases hj : j < n1 * (C.tt et).size
          ·obtain ⟨p1, p2, p3⟩ := flat_get g1 hj
           have h4 := Nat.div_add_mod j (C.tt et).size
           rw [Nat.mul_comm] at h4
           have h5 := g2 _ _ p2 p3
           rw [h4] at h5
           rw [p1, ← h5, List.getElem?_take_of_lt hj, Array.getElem?_toList]
           simp [World.cell?, b1]
          ·rw [List.getElem?_eq_none (by simp; omega), List.getElem?_eq_none (by rw [flat_len g1]; omega)]
         have hcs : cs.toList = flat n1 g0 ++ ((cs.toList.drop (n1 * (C.tt et).size)).take (m * (C.tt et).size) ++ (cs.toList.drop (n1 * (C.tt et).size)).drop (m * (C.tt et).size)) := by
          rw [List.take_append_drop, ← hpre, List.take_append_drop]
         obtain ⟨cs', s1, s2⟩ := run_store_block P (b := l.b) (o := n1 * (C.tt et).size) (el := el) (fz := fz) (flat m k) 0 (w := w) (cs := cs) (flat n1 g0) ((cs.toList.drop (n1 * (C.tt et).size)).take (m * (C.tt et).size))
          ((cs.toList.drop (n1 * (C.tt et).size)).drop (m * (C.tt et).size)) b1 (b2.imp_right And.left) hcs (by rw [flat_len g1]; rfl) (by rw [flat_len k1]; simp; omega) (by
           intro v hv
           exact (Rep.arr (w := w) (A := A) (ρ := ρ) (f := g) k k1 k2 rfl).nota v hv)
         have hrun := run_append_room (ty := ty) (base := some ⟨l.b, 0, none⟩) (n := n1) (sc := rc) (w' := setBlk w l.b (.cells cs' el fz)) K h0 h1 hd0 ht.known k4 hroom (fun q hq => by
          cases hq
          rw [addr_add, Nat.zero_add]
          exact s1) (fun hq => by cases hq)
         have hslen : cs'.size = cs.size := by
          have e1 := congrArg List.length s2
          have e2 := congrArg List.length hcs
          simp [flat_len k1, flat_len g1] at e1 e2
          omega
         have hr1 : row1 t = true → row1 (.arr (n1 + m) (C.tt et).size (cat n1 f g)) = true := fun h1r => by
          unfold dataOf at hdat
          simp only [hl] at hdat
          have hp0 : t.sub [] = some t := by cases t <;> rfl
          rw [hp0] at hdat
          unfold row1 at h1r
          split at h1r
          ·simp only at hdat
           split at hdat
           ·rename_i hb1
            have := beq_iff.1 hb1
            rw [this]; rfl
           ·cases hdat
          ·cases h1r
         refine Done.move h (newId_fresh hid) hl hρ b1 b2 hslen (vs' := flat n1 g0 ++ flat m k) (rest := (cs.toList.drop (n1 * (C.tt et).size)).drop (m * (C.tt et).size)) (t' := .arr (n1 + m) (C.tt et).size (cat n1 f g)) (by rw [s2]; simp)
          (rep_cat g1 k1 g3 k2) (fun x hx => by
           have hx1 : x ∈ cs.toList := List.mem_of_mem_drop (List.mem_of_mem_drop hx)
           rw [b3] at hx1
           exact (List.mem_append.1 hx1).elim (b4.nota x) (hnr x)) hr1 (v := .slice (some ⟨l.b, 0, none⟩) (n1 + m) rc) (by
           simp only [off_nil, Nat.zero_mul, Nat.zero_add]
           simp [hrun]) rfl rfl fun ρ' hid' kp => .of_leaf rfl ?_
         have := Rep.sl (w := setBlk w l.b (.cells cs' el fz)) (A := A) (p := []) (o := 0) (n := n1 + m) (c := n1 + m) (rc := rc) (ex := false) (e := (C.tt et).size) hid' (Nat.le_refl _) hroom (fun hx => by cases hx)
          (by simpa using row_arr (n1 + m) (C.tt et).size (cat n1 f g)) ⟨cs', el, fz, setBlk_same b1, by simp only [off_nil, Nat.zero_add]; rw [hslen]; exact b7⟩
         simp only [off_nil, Nat.zero_mul, Nat.zero_add] at this
         exact this
       ·exact grow_done K h ht hel hsrc (by omega) hb (fun g0 k a1 a2 a3 a4 => rep_cat a1 a2 a3 a4) (newId_fresh hid) rfl rfl hne
     ·cases he
    ·cases he
  ·cases he
 ·cases he
theorem vals1 (h : Rel C N D S ρ A a w) {xs : Array Operand} {x : AV} (hv : valL C S xs.toList = some [x]) : ∃ u, xs.map a.eval = #[u] ∧ RT w A ρ x u := by
 obtain ⟨h1, h2⟩ := h.vals hv
 match hx : xs.toList, h1 with
 | [o], _ =>
  refine ⟨a.eval o, by apply Array.ext'; simp [hx], h2 0 x _ rfl (by simp [hx, nth?])⟩
theorem vals2 (h : Rel C N D S ρ A a w) {xs : Array Operand} {x y : AV} (hv : valL C S xs.toList = some [x, y]) : ∃ u v, xs.map a.eval = #[u, v] ∧ RT w A ρ x u ∧ RT w A ρ y v := by
 obtain ⟨h1, h2⟩ := h.vals hv
 match hx : xs.toList, h1 with
 | [o, o'], _ =>
  exact ⟨a.eval o, a.eval o', by apply Array.ext'; simp [hx], h2 0 x _ rfl (by simp [hx, nth?]), h2 1 y _ rfl (by simp [hx, nth?])⟩
theorem copy_done (K : CtxOK C P) (h : Rel C N D S ρ A a w) {ts : Array TypeId} {t0 et ty : Nat} (h0 : ts[0]? = some t0) (hd0 : P.underlying t0 = some (.slice et)) (hk : (C.tt et).d.known = true) {x : AV} {u v : Value} {m : Nat} {g : Nat → AV} {rd : List Nat} {e : Eff} (hx : RT w A ρ x u)
  (hsrc : Src P w A (C.tt et).size v m g) (he : copyEff S.hp (C.tt et).size x m g rd = some e) (hob : AllP e.ob) :
  Done S ρ A w e ((do pure (.value (← Builtin.copy_ ts ty #[u, v])) : Sem Next).run P w) := by
 unfold copyEff at he
 split at he
 ·rename_i id p o n c ex e0
  split at he
  ·rename_i t hl hee
   obtain rfl := beq_iff.1 hee
   split at he
   ·rename_i k e' f hs
    split at he
    ·rename_i t' hee hut
     obtain rfl := beq_iff.1 hee
     cases he
     have o2 : ∀ i, i < min m n → shp (f (o + i)) (g i) := hob _ List.mem_cons_self
     obtain ⟨hlen, q, k1, k2, k3⟩ := hsrc
     have hnc : n ≤ c := by
      have := hx.leaf rfl
      cases this with
      | sl0 => exact Nat.le_refl _
      | sl _ h1 => exact h1
     obtain ⟨b, rc, w', rfl, hrc, hrep, hst, hno, hdone⟩ := write_row P (s := 0) h hx hl hs hut (m := min m n) (by omega) (fun i hi => k1 i (by omega)) (fun i hi => k2 i (by omega)) fun i hi => shp_shape _ _ (by simpa using o2 i hi)
     have hcells : (Builtin.firstCells (C.tt et).size (min m n) v).run P w = .ok (flat (min m n) q).toArray w := by
      have := k3 w.drawn (min m n) (Nat.min_le_left _ _)
      rwa [drawnTo_self] at this
     have hsz : (sizeOf et).run P w = .ok (C.tt et).size w := run_sizeOf K hk
     have hrun : (Builtin.copy_ ts ty #[.slice b n rc, v]).run P w = .ok (.int .i64 (min m n : Nat)) w' := by
      unfold Builtin.copy_
      cases b with
      | none =>
       obtain rfl := hno rfl
       simp [h0, run_underlying hd0, hlen, hsz, hcells, goInt]
      | some y =>
       have hs := hst y rfl
       have hy : y.add (0 * (C.tt et).size) = y := by cases y; simp [Addr.add]
       rw [hy] at hs
       simp [h0, run_underlying hd0, hlen, hsz, hcells, hs, goInt]
     exact hdone _ _ (.int .i64 (min m n : Nat)) rfl rfl (by simp only [Sem.run_bind, hrun, Result.andThen_ok]; rfl) fun kp => .of_leaf rfl (.v rfl)
    ·cases he
   ·cases he
  ·cases he
 ·cases he
theorem clear_done (K : CtxOK C P) (h : Rel C N D S ρ A a w) {ts : Array TypeId} {t0 et ty : Nat} (h0 : ts[0]? = some t0) (hd0 : P.underlying t0 = some (.slice et)) (hk : (C.tt et).d.known = true) {id o n c e0 : Nat} {p : List Nat} {ex : Bool} {u : Value} {e : Eff} (hx : RT w A ρ (.sl id p o n c ex e0) u)
  (he : copyEff S.hp (C.tt et).size (.sl id p o n c ex e0) n (fun _ => zeroAV C.tt 9 et) [] = some e) (hob : AllP e.ob) :
  Done S ρ A w { e with v := .tup [] } ((do pure (.value (← Builtin.clear_ ts ty #[u])) : Sem Next).run P w) := by
 unfold copyEff at he
 simp only at he
 split at he
 ·rename_i t hl hee
  obtain rfl := beq_iff.1 hee
  split at he
  ·rename_i k e' f hs
   split at he
   ·rename_i t' hee hut
    obtain rfl := beq_iff.1 hee
    cases he
    have o2 : ∀ i, i < min n n → shp (f (o + i)) (zeroAV C.tt 9 et) := hob _ List.mem_cons_self
    rw [Nat.min_self] at o2 hut
    obtain ⟨i, z, i1, i2, i3, i4, i5, i6⟩ := K.info et hk
    have hzc : Rep w A (fun _ => none) (zeroAV C.tt 9 et) z.cells.toList := (i5 w A _).cells
    have hzs : z.cells.size = (C.tt et).size := by
     have h1 := hzc.len
     rw [fits_size i6, Array.length_toList] at h1
     exact h1
    have hnc : n ≤ c := by
     have := hx.leaf rfl
     cases this with
     | sl0 => exact Nat.le_refl _
     | sl _ h1 => exact h1
    obtain ⟨b, rc, w', rfl, hrc, hrep, hst, hno, hdone⟩ := write_row P (s := 0) (q := fun _ => z.cells.toList) h hx hl hs hut (m := n) (by omega) (fun i hi => by simpa using hzs) (fun i hi => hzc) fun i hi => shp_shape _ _ (by simpa using o2 i hi)
    have hzv : (zeroValue et).run P w = .ok z w := by simp [zeroValue, typeInfo, i1, i4]
    have hrun : (Builtin.clear_ ts ty #[.slice b n rc]).run P w = .ok (.tuple #[]) w' := by
     unfold Builtin.clear_
     cases b with
     | none =>
      obtain rfl := hno rfl
      simp [h0, run_underlying hd0]
     | some y =>
      have hs := hst y rfl
      have hy : y.add (0 * (C.tt et).size) = y := by cases y; simp [Addr.add]
      rw [hy, ← zero_flat_list z.cells (C.tt et).size n hzs] at hs
      cases n with
      | zero =>
       have : (Builtin.zeroCells z.cells 0).toList = [] := by simp [Builtin.zeroCells]
       rw [this] at hs
       simp [storeCells] at hs
       subst hs
       simp [h0, run_underlying hd0]
      | succ n => simp [h0, run_underlying hd0, hzv, hs]
    exact hdone { v := .tup [], wr := [(id, .c t')], rd := [id], ob := [∀ i, i < min n n → shp (f (o + i)) (zeroAV C.tt 9 et)] } _ (.tuple #[]) rfl rfl (by simp only [Sem.run_bind, hrun, Result.andThen_ok]; rfl) fun kp => ⟨[], rfl, rfl, fun i y u hy => by cases i <;> cases hy⟩
   ·cases he
  ·cases he
 ·cases he
theorem minMax_run (mx : Bool) : ∀ (r : List AV) (x z : AV) (u : Value) (us : List Value), minMax mx x r = some z → RT w A ρ x u → us.length = r.length → (∀ i y v, nth? r i = some y → nth? us i = some v → RT w A ρ y v) →
  ∃ v, (us.foldlM (match mx with | true => Builtin.max2 | false => Builtin.min2) u).run P w = .ok v w ∧ RT w A ρ z v
 | [], x, z, u, us, hm, hx, hl, hr => by
  simp [minMax] at hm
  subst hm
  obtain rfl : us = [] := List.eq_nil_of_length_eq_zero (by simpa using hl)
  exact ⟨u, rfl, hx⟩
 | y :: r, x, z, u, us, hm, hx, hl, hr => by
  match us, hl with
  | v :: us, hl =>
   have hy := hr 0 y v rfl rfl
   unfold minMax at hm
   split at hm
   ·rename_i he; cases he
   case h_3 => cases hm
   rename_i k n k' n' r' he
   cases he
   rw [rep_int hx, rep_int hy]
   cases mx with
   | true =>
    obtain ⟨q, h1, h2⟩ := minMax_run true r _ z (.int k (max n n')) us hm (.of_leaf rfl (.v rfl)) (by simpa using hl) fun i y v h1 h2 => hr (i + 1) y v h1 h2
    refine ⟨q, ?_, h2⟩
    rw [List.foldlM_cons]
    have e : (Builtin.max2 (.int k n) (.int k' n')).run P w = .ok (.int k (max n n')) w := by
     simp only [Builtin.max2]
     have : (if n' > n then n' else n) = max n n' := by split <;> omega
     rw [this]; rfl
    simp only [Sem.run_bind, e, Result.andThen_ok]; exact h1
   | false =>
    obtain ⟨q, h1, h2⟩ := minMax_run false r _ z (.int k (min n n')) us hm (.of_leaf rfl (.v rfl)) (by simpa using hl) fun i y v h1 h2 => hr (i + 1) y v h1 h2
    refine ⟨q, ?_, h2⟩
    rw [List.foldlM_cons]
    have e : (Builtin.min2 (.int k n) (.int k' n')).run P w = .ok (.int k (min n n')) w := by
     simp only [Builtin.min2]
     have : (if n' < n then n' else n) = min n n' := by split <;> omega
     rw [this]; rfl
    simp only [Sem.run_bind, e, Result.andThen_ok]; exact h1
theorem builtin_done (K : CtxOK C P) (h : Rel C N D S ρ A a w) {b : Builtin} {ts : Array TypeId} {xs : Array Operand} {ty d : Nat} {inpl : Bool} {cb : Array Bool} {l : List AV} {e : Eff} (hl : valL C S xs.toList = some l)
  (he : builtinEff C S d inpl b ts.toList l = some e) (hob : AllP e.ob) : Done S ρ A w e ((builtin b ts ty cb (xs.map a.eval)).run P w) := by
 unfold builtinEff at he
 split at he
 ·-- len
  rename_i t0 tr x hts
  have h0 : ts[0]? = some t0 := by rw [← Array.getElem?_toList, hts]; rfl
  obtain ⟨u, hu, hx⟩ := vals1 h hl
  have htd := K.td t0
  split at he
  ·rename_i n _ _ hd
   rw [hd] at htd; simp only [tdOK] at htd
   cases he
   exact Done.pure h (v := .int .i64 n) (by simp [builtin, Builtin.len_, hu, h0, run_underlying htd, goInt]) (.of_leaf rfl (.v rfl)) rfl rfl
  ·rename_i et n ex e0 f hd
   rw [hd] at htd; simp only [tdOK] at htd
   cases he
   have hr := hx.leaf rfl
   refine Done.pure h (v := .int .i64 n) ?_ (.of_leaf rfl (.v rfl)) rfl rfl
   cases hr <;> simp [builtin, Builtin.len_, hu, h0, run_underlying htd, goInt]
  ·rename_i et id p o n c ex e0 hd
   rw [hd] at htd; simp only [tdOK] at htd
   cases he
   have hr := hx.leaf rfl
   refine Done.pure h (v := .int .i64 n) ?_ (.of_leaf rfl (.v rfl)) rfl rfl
   cases hr <;> simp [builtin, Builtin.len_, hu, h0, run_underlying htd, goInt]
  ·rename_i s hd
   rw [hd] at htd; simp only [tdOK] at htd
   cases he
   have hr := rep_v (hx.leaf rfl)
   exact Done.pure h (v := .int .i64 s.size) (by simp [builtin, Builtin.len_, hu, h0, run_underlying htd, goInt, hr]) (.of_leaf rfl (.v rfl)) rfl rfl
  ·cases he
 ·-- append
  rename_i t0 t1 tr x y hts
  have h0 : ts[0]? = some t0 := by rw [← Array.getElem?_toList, hts]; rfl
  have h1 : ts[1]? = some t1 := by rw [← Array.getElem?_toList, hts]; rfl
  obtain ⟨u, v, hu, hx, hy⟩ := vals2 h hl
  have htd0 := K.td t0
  have htd1 := K.td t1
  split at he
  ·rename_i et hd0 hd1
   rw [hd0] at htd0; rw [hd1] at htd1; simp only [tdOK] at htd0 htd1
   split at he
   ·rename_i s
    split at he
    ·rename_i hs1 hk hb
     have e1 := beq_iff.1 hs1
     have hr := rep_v (hy.leaf rfl)
     subst hr
     have := append_done (ty := ty) K h ⟨⟨t0, h0, htd0⟩, hk, Nat.le_of_ble_eq_true hb⟩ hx (Src.toA h1 (.inr htd1) (by rw [e1]; exact src_string s)) he hob
     simpa [builtin, hu] using this
    ·cases he
   ·cases he
  ·rename_i et e1 hd0 hd1
   rw [hd0] at htd0; rw [hd1] at htd1; simp only [tdOK] at htd0 htd1
   split at he
   ·rename_i m e' g rd hdat
    split at he
    ·rename_i hs1 hk hb
     obtain ⟨q, c, rfl, hc, hel⟩ := h.data hdat hy
     have hsrc : Src P w A (C.tt et).size (.slice q m c) m g := by
      rcases Bool.or_eq_true _ _ ▸ hs1 with hs | hs
      ·rw [← beq_iff.1 hs]; exact hel.src
      ·exact Elems.src (.inl (beq_iff.1 hs))
     have := append_done (ty := ty) K h ⟨⟨t0, h0, htd0⟩, hk, Nat.le_of_ble_eq_true hb⟩ hx (Src.toA h1 (.inl ⟨_, htd1⟩) hsrc) he hob
     simpa [builtin, hu] using this
    ·cases he
   ·cases he
  ·rename_i et k1 hd0 hd1
   rw [hd0] at htd0; rw [hd1] at htd1; simp only [tdOK] at htd0 htd1
   split at he
   ·rename_i z
    split at he
    ·rename_i ef hk hb hef
     cases he
     have hr := rep_v (hy.leaf rfl)
     subst hr
     have o1 : 0 ≤ z ∧ z.toNat * (C.tt et).bytes ≤ 140737488355328 := hob _ List.mem_cons_self
     have hz : ((z.toNat : Nat) : Int) = z := Int.toNat_of_nonneg o1.1
     have hs := srcA_zeros (A := A) (w := w) K h1 htd1 hk (Nat.le_of_ble_eq_true hb) o1.2
     rw [hz] at hs
     have := append_done (ty := ty) K h ⟨⟨t0, h0, htd0⟩, hk, Nat.le_of_ble_eq_true hb⟩ hx hs hef (fun p hp => hob p (List.mem_cons_of_mem _ hp))
     refine Done.ob ?_
     simpa [builtin, hu] using this
    ·cases he
   ·cases he
  ·cases he
 ·-- copy
  rename_i t0 t1 tr x y hts
  have h0 : ts[0]? = some t0 := by rw [← Array.getElem?_toList, hts]; rfl
  have h1 : ts[1]? = some t1 := by rw [← Array.getElem?_toList, hts]; rfl
  obtain ⟨u, v, hu, hx, hy⟩ := vals2 h hl
  have htd0 := K.td t0
  have htd1 := K.td t1
  split at he
  ·rename_i et hd0 hd1
   rw [hd0] at htd0; simp only [tdOK] at htd0
   split at he
   ·rename_i s
    split at he
    ·rename_i hs1 hk
     have e1 := beq_iff.1 hs1
     have hr := rep_v (hy.leaf rfl)
     subst hr
     have := copy_done (ty := ty) K h h0 htd0 hk hx (by rw [e1]; exact src_string s) he hob
     simpa [builtin, hu] using this
    ·cases he
   ·cases he
  ·rename_i et e1 hd0 hd1
   rw [hd0] at htd0; simp only [tdOK] at htd0
   split at he
   ·rename_i m e' g rd hdat
    split at he
    ·rename_i hs1 hk
     obtain ⟨q, c, rfl, hc, hel⟩ := h.data hdat hy
     have hsrc : Src P w A (C.tt et).size (.slice q m c) m g := by
      rcases Bool.or_eq_true _ _ ▸ hs1 with hs | hs
      ·rw [← beq_iff.1 hs]; exact hel.src
      ·exact Elems.src (.inl (beq_iff.1 hs))
     have := copy_done (ty := ty) K h h0 htd0 hk hx hsrc he hob
     simpa [builtin, hu] using this
    ·cases he
   ·cases he
  ·cases he
 ·-- min
  rename_i x r
  split at he
  ·rename_i z hz
   cases he
   obtain ⟨h1, h2⟩ := h.vals hl
   match hxs : xs.toList, h1 with
   | o :: os, h1 =>
    obtain ⟨v, h3, h4⟩ := minMax_run (P := P) false r x z (a.eval o) (os.map a.eval) hz (h2 0 x _ rfl (by simp [hxs, nth?])) (by simpa using h1.symm) fun i y v hy hv => h2 (i + 1) y v hy (by simp [hxs, nth?]; exact hv)
    have hm : (xs.map a.eval).toList = a.eval o :: os.map a.eval := by simp [hxs]
    exact Done.pure h (v := v) (by simp only [builtin, Builtin.min_, hm, Sem.run_bind, h3]; rfl) h4 rfl rfl
  ·cases he
 ·-- max
  rename_i x r
  split at he
  ·rename_i z hz
   cases he
   obtain ⟨h1, h2⟩ := h.vals hl
   match hxs : xs.toList, h1 with
   | o :: os, h1 =>
    obtain ⟨v, h3, h4⟩ := minMax_run (P := P) true r x z (a.eval o) (os.map a.eval) hz (h2 0 x _ rfl (by simp [hxs, nth?])) (by simpa using h1.symm) fun i y v hy hv => h2 (i + 1) y v hy (by simp [hxs, nth?]; exact hv)
    have hm : (xs.map a.eval).toList = a.eval o :: os.map a.eval := by simp [hxs]
    exact Done.pure h (v := v) (by simp only [builtin, Builtin.max_, hm, Sem.run_bind, h3]; rfl) h4 rfl rfl
  ·cases he
 ·-- cap
  rename_i t0 tr x hts
  have h0 : ts[0]? = some t0 := by rw [← Array.getElem?_toList, hts]; rfl
  obtain ⟨u, hu, hx⟩ := vals1 h hl
  have htd := K.td t0
  split at he
  ·rename_i et n e0 f hd
   rw [hd] at htd; simp only [tdOK] at htd
   cases he
   have hr := hx.leaf rfl
   refine Done.pure h (v := .int .i64 n) ?_ (.of_leaf rfl (.v rfl)) rfl rfl
   cases hr with
   | dat0 hc => simp [builtin, Builtin.cap_, hu, h0, run_underlying htd, goInt, hc rfl]
   | dat g ha hc hex => simp [builtin, Builtin.cap_, hu, h0, run_underlying htd, goInt, hex rfl]
  ·rename_i et id p o n c e0 hd
   rw [hd] at htd; simp only [tdOK] at htd
   cases he
   have hr := hx.leaf rfl
   refine Done.pure h (v := .int .i64 c) ?_ (.of_leaf rfl (.v rfl)) rfl rfl
   cases hr with
   | sl0 => simp [builtin, Builtin.cap_, hu, h0, run_underlying htd, goInt]
   | sl a1 a2 a3 a4 => simp [builtin, Builtin.cap_, hu, h0, run_underlying htd, goInt, a4 rfl]
  ·cases he
 ·-- clear
  rename_i t0 tr x hts
  have h0 : ts[0]? = some t0 := by rw [← Array.getElem?_toList, hts]; rfl
  obtain ⟨u, hu, hx⟩ := vals1 h hl
  have htd := K.td t0
  split at he
  ·rename_i et id p o n c ex e' hd
   rw [hd] at htd; simp only [tdOK] at htd
   split at he
   ·rename_i ef hk hc
    cases he
    have := clear_done (ty := ty) K h h0 htd hk hx hc hob
    simpa [builtin, hu] using this
   ·cases he
  ·cases he
 ·cases he
end
end Go.Bu

