/- Equality, and the operators as a whole. -/
import Derived.Test.YtoaefniopgmoaaaDoorK1
import Derived.Laws.StructEq
import Derived.ChangeKeysEq
namespace Go.Bu
section
variable {C : Ctx} {P : Program} {N : Nat} {D : Dom} {S : St} {ρ : Ren} {A : Nat → Prop} {a : Act} {w : World}
theorem flat_cons (n : Nat) (g : Nat → List Value) : flat (n + 1) g = g 0 ++ flat n (fun j => g (j + 1)) := by
 induction n with
 | zero => simp [flat]
 | succ n ih => rw [flat, ih]; simp [flat]
theorem st_cons {x : AV} {r : List AV} {vs : List Value} (h : Rep w A ρ (.st (x :: r)) vs) : ∃ us rest, vs = us ++ rest ∧ Rep w A ρ x us ∧ Rep w A ρ (.st r) rest := by
 cases h with
 | st g hg e =>
  refine ⟨g 0, flat r.length fun j => g (j + 1), ?_, hg 0 x rfl, .st (fun j => g (j + 1)) (fun i y hy => hg (i + 1) y hy) rfl⟩
  rw [e, List.length_cons, flat_cons]
def seqEq (d : Nat) (xs ys : Array Value) : List (Nat × Nat) → Sem Bool
 | [] => pure true
 | (t, o) :: r => do
  let a ← part t xs o
  let b ← part t ys o
  let q ← Op.equalIn d t a b
  if (!q) = true then pure false else seqEq d xs ys r
theorem eqFields_seq (d : Nat) (xs ys : Array Value) : ∀ (fs : List Field), (∀ f ∈ fs, f.name ≠ "_") → Op.eqFields d xs ys fs = seqEq d xs ys (fs.map fun f => (f.type, f.offset))
 | [], _ => rfl
 | f :: fs, h => by
  simp only [Op.eqFields, seqEq, List.map_cons, h f (by simp), ne_eq, not_false_eq_true, if_true]
  rw [eqFields_seq d xs ys fs fun g hg => h g (List.mem_cons_of_mem _ hg)]
theorem eqItems_seq (d e c : Nat) (xs ys : Array Value) : ∀ (is : List Nat), Op.eqItems d e c xs ys is = seqEq d xs ys (is.map fun i => (e, i * c))
 | [] => rfl
 | i :: is => by
  simp only [Op.eqItems, seqEq, List.map_cons]
  rw [eqItems_seq d e c xs ys is]
theorem AllP.app {l r : List Prop} (h : AllP (l ++ r)) : AllP l ∧ AllP r := ⟨fun p hp => h p (List.mem_append_left _ hp), fun p hp => h p (List.mem_append_right _ hp)⟩
theorem run_ints (K : CtxOK C P) {d e m m0 : Nat} {k : IntKind} {f g : Nat → AV} {xs ys : List Value} {e1 e2 : Nat} (hd : (C.tt e).d = .int k)
  (hx : Rep w A ρ (.arr m e1 f) xs) (hy : Rep w A ρ (.arr m e2 g) ys) (hi : ∀ i, i < m → isInt k (f i) ∧ isInt k (g i)) (hm : m0 ≤ m) :
  (seqEq (d + 1) xs.toArray ys.toArray ((List.range' (m - m0) m0).map fun i => (e, i * 1))).run P w = .ok ((List.range' (m - m0) m0).all fun i => asI (f i) == asI (g i)) w := by
 have hu := K.td e
 rw [hd] at hu
 simp only [tdOK] at hu
 have one : ∀ {f : Nat → AV} {xs : List Value} {e1 : Nat}, Rep w A ρ (.arr m e1 f) xs → (∀ i, i < m → isInt k (f i)) → ∀ i, i < m → (part e xs.toArray (i * 1)).run P w = .ok (.int k (asI (f i))) w := by
  intro f xs e1 hx hi i him
  cases hx with
  | arr gx hl hr ex =>
   have hfi := hi i him
   have hri := hr i him
   have h1 : gx i = [.int k (asI (f i))] ∧ e1 = 1 := by
    have := hl i him
    cases hf : f i <;> rw [hf] at hfi hri <;> simp only [isInt] at hfi
    rename_i v
    cases v <;> simp only [] at hfi
    subst hfi
    generalize gx i = l at hri this
    cases hri
    exact ⟨rfl, by simpa using this.symm⟩
   obtain ⟨post, hp⟩ := flat_split him gx
   have hlen : (flat i gx).length = i := by rw [flat_len (e := e1) fun j hj => hl j (by omega), h1.2, Nat.mul_one]
   have e0 : xs.toArray[i]? = some (.int k (asI (f i))) := by
    rw [List.getElem?_toArray, ex, hp, List.getElem?_append_right (by omega), hlen, h1.1]; simp
   unfold part
   simp [isAgg, run_underlying hu, e0]
 induction m0 with
 | zero => simp [seqEq]
 | succ m0 ih =>
  have hlt : m - (m0 + 1) < m := by omega
  have h1 := one hx (fun i h => (hi i h).1) _ hlt
  have h2 := one hy (fun i h => (hi i h).2) _ hlt
  rw [List.range'_succ]
  simp only [List.map_cons, seqEq, Sem.run_bind, h1, h2, Result.andThen_ok, List.all_cons, run_equalIn_int w d e k k _ _ hu]
  rw [show m - (m0 + 1) + 1 = m - m0 by omega]
  cases hb : (asI (f (m - (m0 + 1))) == asI (g (m - (m0 + 1)))) with
  | false => simp
  | true => simpa using ih (by omega)
mutual
theorem run_aeq (K : CtxOK C P) : ∀ (n d t : Nat) (x y : AV) {u v : Value} {r : Bool} {ob : List Prop}, aeq C n t x y = some (r, ob) → AllP ob → RV w A ρ x u → RV w A ρ y v → n ≤ d →
    (Op.equalIn d t u v).run P w = .ok r w
  | 0, _, _, _, _, _, _, _, _, h, _, _, _, _ => by cases h
  | n + 1, 0, _, _, _, _, _, _, _, _, _, _, _, hd => by omega
  | n + 1, d + 1, t, x, y, u, v, r, ob, h, hob, hx, hy, hd => by
    have htd := K.td t
    unfold aeq at h
    split at h
    · rename_i k k1 i k2 j hk
      rw [hk] at htd
      simp only [tdOK] at htd
      split at h
      · rename_i hke
        cases h
        obtain rfl := kEq_iff.1 hke
        rw [rep_v (hx.rt.leaf rfl), rep_v (hy.rt.leaf rfl)]
        exact run_equalIn_int w d t _ _ _ _ htd
      · cases h
    · rename_i hk; rw [hk] at htd; cases h
      rw [rep_v (hx.rt.leaf rfl), rep_v (hy.rt.leaf rfl)]; exact run_equalIn_bool' w d t _ _ htd
    · rename_i hk; rw [hk] at htd; cases h
      rw [rep_sb (hx.rt.leaf rfl), rep_sb (hy.rt.leaf rfl)]; exact run_equalIn_bool' w d t _ _ htd
    · rename_i hk; rw [hk] at htd; cases h
      rw [rep_v (hx.rt.leaf rfl), rep_sb (hy.rt.leaf rfl)]; exact run_equalIn_bool' w d t _ _ htd
    · rename_i hk; rw [hk] at htd; cases h
      rw [rep_sb (hx.rt.leaf rfl), rep_v (hy.rt.leaf rfl)]; exact run_equalIn_bool' w d t _ _ htd
    · rename_i hk; rw [hk] at htd; cases h
      rw [rep_v (hx.rt.leaf rfl), rep_v (hy.rt.leaf rfl)]; exact run_equalIn_string w d t _ _ htd
    · rename_i ts fs gs hk
      rw [hk] at htd
      obtain ⟨fields, h1, h2, h3⟩ := htd
      have hf : P.fieldsOf t = fields := by simp [Program.fieldsOf, h1]
      rcases hx with ⟨hl, _⟩ | ⟨_, xs, rfl, hx⟩
      · cases hl
      rcases hy with ⟨hl, _⟩ | ⟨_, ys, rfl, hy⟩
      · cases hl
      rw [run_equalIn_struct w d t _ _ (by rw [hf]; exact h1) (K.held t ts hk), hf, eqFields_seq d _ _ _ h3, h2]
      exact run_aeqs K n d 0 ts fs gs h hob [] [] (xs := xs) (ys := ys) rfl rfl rfl rfl hx hy (by omega)
    · rename_i m e fs gs hk
      rw [hk] at htd
      simp only [tdOK] at htd
      rcases hx with ⟨hl, _⟩ | ⟨_, xs, rfl, hx⟩
      · cases hl
      rcases hy with ⟨hl, _⟩ | ⟨_, ys, rfl, hy⟩
      · cases hl
      cases hkn : (C.tt e).d.known with
      | true =>
        simp only [hkn] at h
        obtain ⟨ii, z, hi1, hi2, _⟩ := K.info e hkn
        have hc : P.cellsOf e = (C.tt e).size := by simp [Program.cellsOf, hi1, hi2]
        rw [run_equalIn_array w d _ _ htd hi1, eqItems_seq, hc]
        exact run_aeqs K n d 0 _ fs gs h hob [] [] (xs := xs) (ys := ys) rfl rfl rfl rfl hx hy (by omega)
      | false => simp [hkn] at h
    · rename_i m e m' e1 f m'' e2 g hk
      rw [hk] at htd
      simp only [tdOK] at htd
      rcases hx with ⟨hl, _⟩ | ⟨_, xs, rfl, hx⟩
      · cases hl
      rcases hy with ⟨hl, _⟩ | ⟨_, ys, rfl, hy⟩
      · cases hl
      split at h
      · rename_i k h1 h2 he hs1 hn1
        cases h
        obtain rfl := beq_iff.1 h1
        obtain rfl := beq_iff.1 h2
        have hkn : (C.tt e).d.known = true := by rw [he]; rfl
        obtain ⟨ii, z, hi1, hi2, _⟩ := K.info e hkn
        have hc : P.cellsOf e = 1 := by simp [Program.cellsOf, hi1, hi2, beq_iff.1 hs1]
        obtain ⟨d', rfl⟩ : ∃ d', d = d' + 1 := ⟨d - 1, by
          have := Nat.le_of_ble_eq_true hn1
          omega⟩
        rw [run_equalIn_array w (d' + 1) _ _ htd hi1, eqItems_seq, hc, List.range_eq_range']
        have := run_ints K (d := d') (m0 := m) he hx hy (hob _ List.mem_cons_self) (Nat.le_refl _)
        simpa using this
      · cases h
    · cases h
theorem run_aeqs (K : CtxOK C P) : ∀ (n d off : Nat) (ts : List (Nat × Nat)) (fs gs : List AV) {r : Bool} {ob : List Prop}, aeq.aeqs C n off ts fs gs = some (r, ob) → AllP ob →
    ∀ (pre pre' : List Value) {xs ys us us' : List Value}, xs = pre ++ us → ys = pre' ++ us' → pre.length = off → pre'.length = off → Rep w A ρ (.st fs) us → Rep w A ρ (.st gs) us' → n ≤ d + 1 →
    (seqEq d xs.toArray ys.toArray ts).run P w = .ok r w
  | 0, _, _, _, _, _, _, _, h, _, _, _, _, _, _, _, _, _, _, _, _, _, _ => by simp [aeq.aeqs] at h
  | n + 1, d, off, [], [], [], r, ob, h, hob, pre, pre', xs, ys, us, us', e1, e2, l1, l2, hx, hy, hd => by
    simp [aeq.aeqs] at h; obtain ⟨rfl, rfl⟩ := h; rfl
  | n + 1, d, off, (t, o) :: ts, x :: rr, y :: q, r, ob, h, hob, pre, pre', xs, ys, us, us', e1, e2, l1, l2, hx, hy, hd => by
    simp only [aeq.aeqs] at h
    split at h
    · rename_i ho hfx hfy
      split at h
      · rename_i b o1 b' o2 h1 h2
        simp only [Option.some.injEq, Prod.mk.injEq] at h
        obtain ⟨rfl, rfl⟩ := h
        obtain rfl := beq_iff.1 ho
        obtain ⟨u1, r1, f1, hx1, hx2⟩ := st_cons hx
        obtain ⟨u2, r2, f2, hy1, hy2⟩ := st_cons hy
        obtain ⟨v1, p1, q1⟩ := run_part (w := w) (cs := xs.toArray) (pre := pre) (us := u1) (post := r1) K hfx (by simp [e1, f1]) l1 hx1
        obtain ⟨v2, p2, q2⟩ := run_part (w := w) (cs := ys.toArray) (pre := pre') (us := u2) (post := r2) K hfy (by simp [e2, f2]) l2 hy1
        have heq := run_aeq K n d t x y h1 hob.app.1 q1 q2 (by omega)
        simp only [seqEq, Sem.run_bind, p1, p2, heq, Result.andThen_ok]
        cases b with
        | false => simp
        | true =>
          have := run_aeqs K n d _ ts rr q h2 hob.app.2 (pre ++ u1) (pre' ++ u2) (xs := xs) (ys := ys) (us := r1) (us' := r2) (by simp [e1, f1]) (by simp [e2, f2]) (by simp [l1, hx1.len]) (by simp [l2, hy1.len, fits_size hfx, fits_size hfy]) hx2 hy2 (by omega)
          simpa using this
      · cases h
    · cases h
  | n + 1, _, _, [], [], _ :: _, _, _, h, _, _, _, _, _, _, _, _, _, _, _, _, _, _ => by simp [aeq.aeqs] at h
  | n + 1, _, _, [], _ :: _, _, _, _, h, _, _, _, _, _, _, _, _, _, _, _, _, _, _ => by simp [aeq.aeqs] at h
  | n + 1, _, _, _ :: _, [], _, _, _, h, _, _, _, _, _, _, _, _, _, _, _, _, _, _ => by simp [aeq.aeqs] at h
  | n + 1, _, _, _ :: _, _ :: _, [], _, _, h, _, _, _, _, _, _, _, _, _, _, _, _, _, _ => by simp [aeq.aeqs] at h
end
theorem eqIn_nil {P : Program} {t et : Nat} {w : World} (d : Nat) (hu : P.underlying t = some (.slice et)) (q : Option Addr) (n c : Nat) : (Op.equalIn (d + 1) t (.slice q n c) (.slice none 0 0)).run P w = .ok q.isNone w := by
 cases q <;> simp [Op.equalIn, run_underlying hu]
theorem op_binOp (K : CtxOK C P) (h : Rel C N D S ρ A a w) {o : BinOp} {t t' d : Nat} {x y : Operand} {b : Bool} {e : Eff} (he : opEff C S d b (.binOp o t x y t') = some e) (hob : AllP e.ob) :
    Done S ρ A w e ((do pure (.value (← do eqGuard o t x y (a.eval x) (a.eval y); binOp o t (a.eval x) (a.eval y))) : Sem Next).run P w) := by
  simp only [opEff] at he
  split at he
  · rename_i hy
    have hy' : a.eval y = .slice none 0 0 := by
      unfold isNilC at hy
      split at hy
      · rfl
      · cases hy
    have htd := K.td t
    have hrun : ∀ {et : Nat} (q : Option Addr) (n c : Nat), P.underlying t = some (.slice et) → (eqGuard o t x y (.slice q n c) (.slice none 0 0)).run P w = .ok () w ∧ (binOp .eql t (.slice q n c) (.slice none 0 0)).run P w = .ok (.bool q.isNone) w ∧ (binOp .neq t (.slice q n c) (.slice none 0 0)).run P w = .ok (.bool (!q.isNone)) w := fun q n c hu => by
      have eqm : (Op.equalIn Op.maxDepth t (.slice q n c) (.slice none 0 0)).run P w = .ok q.isNone w := eqIn_nil 9999 hu q n c
      exact ⟨by unfold eqGuard; split <;> rfl, by simp [binOp, Op.equal, eqm], by simp [binOp, Op.equal, eqm]⟩
    rw [hy']
    unfold nilEff at he
    split at he
    · rename_i et n ex es f hd hv
      cases he
      rw [hd] at htd
      have h0 : 0 < n := hob _ List.mem_cons_self
      have hr := (h.val hv).leaf rfl
      generalize a.eval x = u at hr
      cases hr with
      | dat0 => omega
      | dat => exact Done.pure h (v := .bool false) (by simp [(hrun _ _ _ htd).1, (hrun _ _ _ htd).2.1]) (.of_leaf rfl (.v rfl)) rfl rfl
    · rename_i et n ex es f hd hv
      cases he
      rw [hd] at htd
      have h0 : 0 < n := hob _ List.mem_cons_self
      have hr := (h.val hv).leaf rfl
      generalize a.eval x = u at hr
      cases hr with
      | dat0 => omega
      | dat => exact Done.pure h (v := .bool true) (by simp [(hrun _ _ _ htd).1, (hrun _ _ _ htd).2.2]) (.of_leaf rfl (.v rfl)) rfl rfl
    · rename_i et q n c hd hv
      cases he
      rw [hd] at htd
      rw [rep_v ((h.val hv).leaf rfl)]
      exact Done.pure h (v := .bool q.isNone) (by simp [(hrun _ _ _ htd).1, (hrun _ _ _ htd).2.1]) (.of_leaf rfl (.v rfl)) rfl rfl
    · rename_i et q n c hd hv
      cases he
      rw [hd] at htd
      rw [rep_v ((h.val hv).leaf rfl)]
      exact Done.pure h (v := .bool (!q.isNone)) (by simp [(hrun _ _ _ htd).1, (hrun _ _ _ htd).2.2]) (.of_leaf rfl (.v rfl)) rfl rfl
    · cases he
  split at he
  · rename_i u v hu hv
    unfold Eff.ofOb at he
    split at he
    · rename_i r ob hb
      cases he
      unfold binAV at hb
      split at hb
      · rename_i k i k' j
        rw [rep_int (h.val hu), rep_int (h.val hv)]
        obtain ⟨z, h1, h2⟩ := run_binI (P := P) (w := w) (A := A) (ρ := ρ) (t := t) hb hob
        refine Done.pure h (v := z) ?_ h2.rt rfl rfl
        have hg : (eqGuard o t x y (.int k i) (.int k' j)).run P w = .ok () w := by
          unfold eqGuard; split <;> rfl
        simp [hg, h1]
      · rename_i s1 s2
        rw [rep_v ((h.val hu).leaf rfl), rep_v ((h.val hv).leaf rfl)]
        obtain ⟨z, h1, h2⟩ := run_binS (P := P) (w := w) (A := A) (ρ := ρ) (t := t) hb hob
        refine Done.pure h (v := z) ?_ h2.rt rfl rfl
        have hg : (eqGuard o t x y (.string s1) (.string s2)).run P w = .ok () w := by
          unfold eqGuard; split <;> rfl
        simp [hg, h1]
      · rename_i hni hns
        have key : ∀ {q : Bool} {ob : List Prop}, aeq C 60 t u v = some (q, ob) → ptrFree C.tt 9 t = true → AllP ob →
            (eqGuard o t x y (a.eval x) (a.eval y)).run P w = .ok () w ∧ (o = .eql → (binOp o t (a.eval x) (a.eval y)).run P w = .ok (.bool q) w) ∧ (o = .neq → (binOp o t (a.eval x) (a.eval y)).run P w = .ok (.bool (!q)) w) := by
          intro q ob hq hpf hob
          have nt : ∀ (l : List AV), u ≠ .tup l ∧ v ≠ .tup l := by
            intro l
            constructor <;> (intro e; subst e; unfold aeq at hq; split at hq <;> simp_all)
          have hx : RV w A ρ u (a.eval x) := (h.val hu).rv fun l => (nt l).1
          have hy : RV w A ρ v (a.eval y) := (h.val hv).rv fun l => (nt l).2
          have heq := run_aeq K 60 10000 t u v hq hob hx hy (by omega)
          have heq' : (Op.equal t (a.eval x) (a.eval y)).run P w = .ok q w := heq
          have hshape : (∃ b1 b2, a.eval x = .bool b1 ∧ a.eval y = .bool b2) ∨ (∃ l1 l2, a.eval x = .agg l1 ∧ a.eval y = .agg l2) := by
            unfold aeq at hq
            split at hq
            · exact absurd rfl (hni _ _ _ _ rfl)
            · exact .inl ⟨_, _, rep_v (hx.rt.leaf rfl), rep_v (hy.rt.leaf rfl)⟩
            · exact .inl ⟨_, _, rep_sb (hx.rt.leaf rfl), rep_sb (hy.rt.leaf rfl)⟩
            · exact .inl ⟨_, _, rep_v (hx.rt.leaf rfl), rep_sb (hy.rt.leaf rfl)⟩
            · exact .inl ⟨_, _, rep_sb (hx.rt.leaf rfl), rep_v (hy.rt.leaf rfl)⟩
            · exact absurd rfl (hns _ _ rfl)
            all_goals first
              | (rcases hx with ⟨hl, _⟩ | ⟨_, l1, e1, _⟩
                 · cases hl
                 rcases hy with ⟨hl, _⟩ | ⟨_, l2, e2, _⟩
                 · cases hl
                 exact .inr ⟨_, _, e1, e2⟩)
              | cases hq
          rcases hshape with ⟨b1, b2, e1, e2⟩ | ⟨l1, l2, e1, e2⟩
          · rw [e1, e2] at heq' ⊢
            refine ⟨?_, fun ho => ?_, fun ho => ?_⟩
            · unfold eqGuard; split <;> rfl
            · subst ho; simp [binOp, heq']
            · subst ho; simp [binOp, heq']
          · rw [e1, e2] at heq' ⊢
            refine ⟨run_eqGuard_agg w o t x y _ _ (K.eqg t hpf), fun ho => ?_, fun ho => ?_⟩
            · subst ho; simp [binOp, heq']
            · subst ho; simp [binOp, heq']
        split at hb
        · split at hb
          · rename_i q o1 hpf hq
            cases hb
            obtain ⟨h1, h2, _⟩ := key hq hpf hob
            exact Done.pure h (v := .bool q) (by simp [h1, h2 rfl]) (.of_leaf rfl .sb) rfl rfl
          · cases hb
        · split at hb
          · rename_i q o1 hpf hq
            cases hb
            obtain ⟨h1, _, h2⟩ := key hq hpf hob
            exact Done.pure h (v := .bool (!q)) (by simp [h1, h2 rfl]) (.of_leaf rfl .sb) rfl rfl
          · cases hb
        · cases hb
    · cases he
  · cases he
end
end Go.Bu
namespace Go.Bu
section
variable {C : Ctx} {P : Program} {N : Nat} {D : Dom} {S : St} {ρ : Ren} {A : Nat → Prop} {a : Act} {w : World}
theorem optVal_int (h : Rel C N D S ρ A a w) {x : Option Operand} {l : Option AV} (hx : optVal C S x = some l) :
  (x = none ∧ l = none) ∨ ∃ y z, x = some y ∧ l = some z ∧ RT w A ρ z (a.eval y) := by
 unfold optVal at hx
 split at hx
 ·cases hx; exact .inl ⟨rfl, rfl⟩
 ·split at hx
  ·cases hx; exact .inr ⟨_, _, rfl, rfl, h.val (by assumption)⟩
  ·cases hx
theorem intOf_rt {z : AV} {n : Int} {v : Value} (h : intOf z = some n) (hr : RT w A ρ z v) : ∃ k, v = .int k n := by
 unfold intOf at h
 split at h
 ·cases h; exact ⟨_, rep_int hr⟩
 ·cases h
theorem run_bound {k : IntKind} {i : Int} {y : Nat} {c : BoundsCode} (h : 0 ≤ i ∧ i ≤ y) : (Instr.sliceBound (.int k i) y c).run P w = .ok i.toNat w := by
 simp [Instr.sliceBound, asIntOf, h]
theorem run_bounds (h : Rel C N D S ρ A a w) {lo hi mx : Option Operand} {l hh m : Option AV} (hl : optVal C S lo = some l) (h1 : optVal C S hi = some hh) (h2 : optVal C S mx = some m)
  {il ih im : Int} {len cap : Nat} {s : Bool} (el : bnd l 0 = some il) (eh : bnd hh len = some ih) (em : (m = none ∧ im = cap) ∨ (∃ z, m = some z ∧ intOf z = some im ∧ hh ≠ none)) (hb : 0 ≤ il ∧ il ≤ ih ∧ ih ≤ im ∧ im ≤ cap) :
  (Instr.sliceBounds s len cap (lo.map a.eval) (hi.map a.eval) (mx.map a.eval)).run P w = .ok (il.toNat, ih.toNat, im.toNat) w := by
 have hm : (∃ y k, mx = some y ∧ a.eval y = .int k im ∧ m ≠ none) ∨ (mx = none ∧ m = none ∧ im = cap) := by
  rcases em with ⟨rfl, e⟩ | ⟨z, rfl, hz, _⟩
  ·rcases optVal_int h h2 with ⟨e1, _⟩ | ⟨y, z, _, e2, _⟩
   ·exact .inr ⟨e1, rfl, e⟩
   ·cases e2
  ·rcases optVal_int h h2 with ⟨_, e2⟩ | ⟨y, z', e1, e2, hr⟩
   ·cases e2
   ·cases e2
    obtain ⟨k, hk⟩ := intOf_rt hz hr
    exact .inl ⟨y, k, e1, hk, by simp⟩
 have hhi : (∃ y k, hi = some y ∧ a.eval y = .int k ih) ∨ (hi = none ∧ hh = none ∧ ih = len) := by
  rcases optVal_int h h1 with ⟨e1, e2⟩ | ⟨y, z, e1, e2, hr⟩
  ·subst e2; simp [bnd] at eh; exact .inr ⟨e1, rfl, eh.symm⟩
  ·subst e2; simp only [bnd] at eh
   obtain ⟨k, hk⟩ := intOf_rt eh hr
   exact .inl ⟨y, k, e1, hk⟩
 have hlo : (∃ y k, lo = some y ∧ a.eval y = .int k il) ∨ (lo = none ∧ il = 0) := by
  rcases optVal_int h hl with ⟨e1, e2⟩ | ⟨y, z, e1, e2, hr⟩
  ·subst e2; simp [bnd] at el; exact .inr ⟨e1, el.symm⟩
  ·subst e2; simp only [bnd] at el
   obtain ⟨k, hk⟩ := intOf_rt el hr
   exact .inl ⟨y, k, e1, hk⟩
 have b1 : 0 ≤ im ∧ im ≤ (cap : Nat) := by omega
 have b2 : 0 ≤ ih ∧ ih ≤ (im.toNat : Nat) := by omega
 have b3 : 0 ≤ il ∧ il ≤ (ih.toNat : Nat) := by omega
 unfold Instr.sliceBounds
 rcases hm with ⟨ym, km, rfl, em1, em2⟩ | ⟨rfl, em1, rfl⟩
 ·rcases hhi with ⟨yh, kh, rfl, eh1⟩ | ⟨_, e, _⟩
  ·rcases hlo with ⟨yl, kl, rfl, el1⟩ | ⟨rfl, rfl⟩
   ·simp [em1, eh1, el1, run_bound b1, run_bound b2, run_bound b3]
   ·simp [em1, eh1, run_bound b1, run_bound b2]
  ·rcases em with ⟨rfl, _⟩ | ⟨_, _, _, hne⟩
   ·exact absurd rfl em2
   ·exact absurd e hne
 ·rw [Int.toNat_natCast] at b2
  rcases hhi with ⟨yh, kh, rfl, eh1⟩ | ⟨rfl, _, rfl⟩
  ·rcases hlo with ⟨yl, kl, rfl, el1⟩ | ⟨rfl, rfl⟩
   ·simp [eh1, el1, run_bound b2, run_bound b3]
   ·simp [eh1, run_bound b2]
  ·rw [Int.toNat_natCast] at b3
   rcases hlo with ⟨yl, kl, rfl, el1⟩ | ⟨rfl, rfl⟩
   ·simp [el1, run_bound b3]
   ·simp
theorem op_slice (K : CtxOK C P) (h : Rel C N D S ρ A a w) {t d : Nat} {x : Operand} {lo hi mx : Option Operand} {b : Bool} {e : Eff} (he : opEff C S d b (.slice t x lo hi mx) = some e) (hob : AllP e.ob) :
  Done S ρ A w e ((do pure (.value (← Instr.sliceAt t (a.eval x) (lo.map a.eval) (hi.map a.eval) (mx.map a.eval))) : Sem Next).run P w) := by
 simp only [opEff] at he
 split at he
 ·rename_i v l hh m hv hl h1 h2
  split at he
  ·-- an array of the own memory
   rename_i id p n et s hd
   split at he
   ·rename_i b0 hb
    split at he
    ·rename_i n' e' f hs
     split at he
     ·rename_i hn hee hk
      obtain rfl := beq_iff.1 hn
      have hee := beq_iff.1 hee
      have htd := K.td t
      rw [hd] at htd
      simp only [tdOK] at htd
      have hr := (h.val hv).leaf rfl
      split at he
      ·rename_i r ob hc
       cases he
       generalize hu : a.eval x = u at hr
       cases hr with
       | ptr hρ hvp =>
        rename_i k
        obtain ⟨cs, el, fz, vs, rest, e1, e2, e3, e4, e5, hnr⟩ := h.block hb hρ
        have hvp' := (e5.vp p).1 hvp
        obtain ⟨pre, us, post, e6, e7, e8⟩ := e4.part p hvp' hs
        have hrow : k.t.row p e' (0 + n) := fun i hi => by
         have h3 := (sub_vp p hs [i] hvp').2 (by simp [AV.vp]; omega)
         have h4 := (e5.vp (p ++ [i])).2 h3
         refine ⟨h4, ?_⟩
         rw [e5.off _ h4, sub_off p hs [i] hvp', e5.off p hvp]
         simp [AV.off]
        have hbd : k.t.off p + (0 + n) * e' ≤ cs.size := by
         have := congrArg List.length e3
         rw [e6] at this
         have h5 := e8.len
         simp [AV.size] at this h5
         rw [e5.off p hvp]; simp; omega
        have fin : ∀ {il ih im : Int} {c' : Nat} {ex' : Bool}, 0 ≤ il ∧ il ≤ ih ∧ ih ≤ im ∧ im ≤ n → c' = im.toNat - il.toNat → (Instr.sliceBounds false n n (lo.map a.eval) (hi.map a.eval) (mx.map a.eval)).run P w = .ok (il.toNat, ih.toNat, im.toNat) w →
          ∃ z, (Instr.sliceAt t (.pointer (some ⟨k.b, k.t.off p, none⟩)) (lo.map a.eval) (hi.map a.eval) (mx.map a.eval)).run P w = .ok z w ∧ Rep w A ρ (.sl id p (0 + il.toNat) (ih.toNat - il.toNat) c' ex' e') [z] := by
         intro il ih im c' ex' hbd' hc' hrun
         refine ⟨.slice (some (if im.toNat = il.toNat then ⟨k.b, k.t.off p, none⟩ else Addr.add ⟨k.b, k.t.off p, none⟩ (il.toNat * (C.tt et).size))) (ih.toNat - il.toNat) (im.toNat - il.toNat), ?_, ?_⟩
         ·simp [Instr.sliceAt, run_underlying htd, Instr.sureAddr, hrun, run_sizeOf K hk]
         ·subst hc'
          by_cases e0 : im.toNat = il.toNat
          ·have e1 : ih.toNat - il.toNat = 0 := by omega
           have e3 : im.toNat - il.toNat = 0 := by omega
           rw [e1, e3]; exact .sl0
          ·rw [if_neg e0, addr_add, ← hee, Nat.zero_add]
           refine .sl hρ (by omega) (Nat.le_refl _) (fun _ => rfl) (fun i hi => hrow i (by omega)) ⟨cs, el, fz, e1, ?_⟩
           refine Nat.le_trans (Nat.add_le_add_left (Nat.mul_le_mul_right _ ?_) _) hbd
           omega
        simp only [cutAV] at hc
        split at hc
        ·rename_i il ih e1' e2'
         cases hc
         have hbd := hob _ List.mem_cons_self
         have hbs := run_bounds (P := P) h hl h1 h2 (s := false) (len := n) (cap := n) (im := n) e1' e2' (.inl ⟨rfl, rfl⟩) (by omega)
         obtain ⟨z, hz1, hz2⟩ := fin (il := il) (ih := ih) (im := n) (c' := n - il.toNat) (ex' := true) (by omega) (by simp) hbs
         exact Done.pure h (v := z) (by simp [hz1]) (.of_leaf rfl hz2) rfl rfl
        ·rename_i il ih m0 e1' e2'
         split at hc
         ·rename_i im _ em
          cases hc
          have hbd := hob _ List.mem_cons_self
          have hne := Option.some_ne_none (α := AV) ‹_›
          have hbs := run_bounds (P := P) h hl h1 h2 (s := false) (len := n) (cap := n) (im := im) e1' e2' (.inr ⟨m0, rfl, em, hne⟩) (by omega)
          obtain ⟨z, hz1, hz2⟩ := fin (il := il) (ih := ih) (im := im) (c' := im.toNat - il.toNat) (ex' := true) (by omega) rfl hbs
          exact Done.pure h (v := z) (by simp [hz1]) (.of_leaf rfl hz2) rfl rfl
         ·cases hc
        ·cases hc
      ·cases he
     ·cases he
    ·cases he
   ·cases he
  ·-- a text
   rename_i s hd
   have htd := K.td t
   rw [hd] at htd
   have hr := rep_v ((h.val hv).leaf rfl)
   unfold Eff.ofOb at he
   split at he
   ·rename_i r ob hc
    cases he
    simp only [cutAV] at hc
    split at hc
    ·rename_i il ih e1 e2
     cases hc
     have hbd := hob _ List.mem_cons_self
     have hbs := run_bounds (P := P) h hl h1 h2 (s := false) (len := s.size) (cap := s.size) (im := s.size) e1 e2 (.inl ⟨rfl, rfl⟩) (by omega)
     have hmx : mx = none := by rcases optVal_int h h2 with ⟨e, _⟩ | ⟨_, _, _, e, _⟩; exact e; cases e
     subst hmx
     exact Done.pure h (v := .string (s.extract il.toNat ih.toNat)) (by simp only [Option.map_none] at hbs; simp [Instr.sliceAt, Instr.slice, run_underlying htd, hr, hbs]) (.of_leaf rfl (.v rfl)) rfl rfl
    ·cases hc
   ·cases he
  ·-- data
   rename_i n ex e' f et hd
   have htd := K.td t
   rw [hd] at htd
   simp only [tdOK] at htd
   split at he
   ·rename_i hee hk
    have hee := beq_iff.1 hee
    unfold Eff.ofOb at he
    split at he
    ·rename_i r ob hc
     cases he
     have hr := (h.val hv).leaf rfl
     have fin : ∀ {il ih im : Int} {c : Nat} {u : Value} {ex' : Bool}, Rep w A ρ (.dat n ex e' f) [u] → (∀ q len rc, u = .slice q len rc → len = n ∧ rc = c) → 0 ≤ il ∧ il ≤ ih ∧ ih ≤ n ∧ ih ≤ im ∧ im ≤ c → (ex' = true → im = ih) →
       (Instr.sliceBounds true n c (lo.map a.eval) (hi.map a.eval) (mx.map a.eval)).run P w = .ok (il.toNat, ih.toNat, im.toNat) w →
       ∃ z, (Instr.sliceAt t u (lo.map a.eval) (hi.map a.eval) (mx.map a.eval)).run P w = .ok z w ∧ Rep w A ρ (.dat (ih.toNat - il.toNat) ex' e' (fun i => f (il.toNat + i))) [z] := by
      intro il ih im c u ex' hu hs hb hex hrun
      cases hu with
      | @dat0 _ _ _ _ q rc hc =>
       obtain ⟨_, rfl⟩ := hs _ _ _ rfl
       have e0 : ih.toNat - il.toNat = 0 := by simp at hb; omega
       refine ⟨.slice (if im.toNat = il.toNat then q else q.map (·.add (il.toNat * (C.tt et).size))) (ih.toNat - il.toNat) (im.toNat - il.toNat), ?_, ?_⟩
       ·simp [Instr.sliceAt, Instr.slice, run_underlying htd, hrun, run_sizeOf K hk]
       ·rw [e0]; exact .dat0 fun hx => by have := hex hx; omega
      | @dat _ _ _ _ _ bb oo rc g ha hc hex0 hl hm hr =>
       obtain ⟨_, rfl⟩ := hs _ _ _ rfl
       refine ⟨.slice (if im.toNat = il.toNat then some ⟨bb, oo, none⟩ else some (Addr.add ⟨bb, oo, none⟩ (il.toNat * (C.tt et).size))) (ih.toNat - il.toNat) (im.toNat - il.toNat), ?_, ?_⟩
       ·simp [Instr.sliceAt, Instr.slice, run_underlying htd, hrun, run_sizeOf K hk]
       ·by_cases e0 : ih.toNat - il.toNat = 0
        ·rw [e0]; exact .dat0 fun hx => by have := hex hx; omega
        ·rw [if_neg (by omega), addr_add, ← hee]
         refine .dat (fun i => g (il.toNat + i)) ha (by omega) (fun hx => by have := hex hx; omega) (fun i hi => hl _ (by omega)) (fun i j hi hj => ?_) (fun i hi => hr _ (by omega))
         rw [Nat.add_assoc, ← Nat.add_assoc (il.toNat * e'), ← Nat.add_mul]
         exact hm _ _ (by omega) hj
     have hcap : ∃ c, (∀ q len rc, a.eval x = .slice q len rc → len = n ∧ rc = c) ∧ n ≤ c ∧ (ex = true → c = n) := by
      generalize a.eval x = u at hr
      cases hr with
      | dat0 hc => exact ⟨_, fun _ _ _ e => by cases e; exact ⟨rfl, rfl⟩, by omega, fun hx => by simpa using hc hx⟩
      | dat g ha hc hex0 hl hm hr => exact ⟨_, fun _ _ _ e => by cases e; exact ⟨rfl, rfl⟩, hc, hex0⟩
     obtain ⟨c, hc1, hc2, hc3⟩ := hcap
     simp only [cutAV] at hc
     split at hc
     ·rename_i il ih e1 e2
      cases hc
      have hbd := hob _ List.mem_cons_self
      have hbs := run_bounds (P := P) h hl h1 h2 (s := true) (len := n) (cap := c) (im := c) e1 e2 (.inl ⟨rfl, rfl⟩) (by omega)
      obtain ⟨z, hz1, hz2⟩ := fin (il := il) (ih := ih) (im := c) (c := c) (ex' := exIf hh ex) hr hc1 (by omega) (fun hx => by
       cases hh with
       | none => simp [bnd] at e2; simp only [exIf] at hx; have := hc3 hx; omega
       | some _ => cases hx) hbs
      exact Done.pure h (v := z) (by simp [hz1]) (.of_leaf rfl hz2) rfl rfl
     ·rename_i il ih m0 e1 e2
      split at hc
      ·rename_i im _ em
       cases hc
       have hbd := hob _ List.mem_cons_self
       have hne := Option.some_ne_none (α := AV) ‹_›
       have hbs := run_bounds (P := P) h hl h1 h2 (s := true) (len := n) (cap := c) (im := im) e1 e2 (.inr ⟨m0, rfl, em, hne⟩) (by omega)
       obtain ⟨z, hz1, hz2⟩ := fin (il := il) (ih := ih) (im := im) (c := c) (ex' := true) hr hc1 (by omega) (fun _ => by omega) hbs
       exact Done.pure h (v := z) (by simp [hz1]) (.of_leaf rfl hz2) rfl rfl
      ·cases hc
     ·cases hc
    ·cases he
   ·rename_i hee hk
    split at he
    ·rename_i il ih e1 e2
     cases he
     obtain ⟨hn, hx, hbd⟩ := hob _ List.mem_cons_self
     subst hn
     subst hx
     have hr := (h.val hv).leaf rfl
     have hbs := run_bounds (P := P) h hl h1 h2 (s := true) (len := 0) (cap := 0) (im := 0) e1 e2 (.inl ⟨rfl, rfl⟩) (by omega)
     have i0 : il.toNat = 0 := by omega
     have j0 : ih.toNat = 0 := by omega
     rw [i0, j0] at hbs
     generalize a.eval x = u at hr ⊢
     cases hr with
     | @dat0 _ _ _ _ q rc hc =>
      obtain rfl := hc rfl
      exact Done.pure h (v := .slice q 0 0) (by simp [Instr.sliceAt, Instr.slice, run_underlying htd, hbs, run_sizeOf K hk]) (.of_leaf rfl (.dat0 fun _ => rfl)) rfl rfl
     | @dat _ _ _ _ _ bb oo rc g ha hc hex0 hl hm hr =>
      obtain rfl := hex0 rfl
      exact Done.pure h (v := .slice (some ⟨bb, oo, none⟩) 0 0) (by simp [Instr.sliceAt, Instr.slice, run_underlying htd, hbs, run_sizeOf K hk]) (.of_leaf rfl (.dat0 fun _ => rfl)) rfl rfl
    ·cases he
   ·cases he
  ·-- own elements
   rename_i id p o n c ex e' et hd
   have htd := K.td t
   rw [hd] at htd
   simp only [tdOK] at htd
   split at he
   ·rename_i hee hk
    have hee := beq_iff.1 hee
    unfold Eff.ofOb at he
    split at he
    ·rename_i r ob hc
     cases he
     have hr := (h.val hv).leaf rfl
     have fin : ∀ {il ih im : Int} {rc : Nat} {u : Value} {ex' : Bool} {c' : Nat}, Rep w A ρ (.sl id p o n c ex e') [u] → (∀ q len r, u = .slice q len r → len = n ∧ r = rc) → 0 ≤ il ∧ il ≤ ih ∧ ih ≤ im ∧ im ≤ rc → ih ≤ c → c' ≤ c - il.toNat → ih.toNat - il.toNat ≤ c' → c' ≤ im.toNat - il.toNat → (ex' = true → im.toNat - il.toNat = c') →
       (Instr.sliceBounds true n rc (lo.map a.eval) (hi.map a.eval) (mx.map a.eval)).run P w = .ok (il.toNat, ih.toNat, im.toNat) w →
       ∃ z, (Instr.sliceAt t u (lo.map a.eval) (hi.map a.eval) (mx.map a.eval)).run P w = .ok z w ∧ Rep w A ρ (.sl id p (o + il.toNat) (ih.toNat - il.toNat) c' ex' e') [z] := by
      intro il ih im rc u ex' c' hu hs hb hihc hc1 hc2 hc3 hex hrun
      cases hu with
      | @sl0 _ _ _ _ _ _ q =>
       obtain ⟨_, rfl⟩ := hs _ _ _ rfl
       have e0 : ih.toNat - il.toNat = 0 := by omega
       have e1 : c' = 0 := by omega
       have e2 : im.toNat - il.toNat = 0 := by omega
       refine ⟨.slice (if im.toNat = il.toNat then q else q.map (·.add (il.toNat * (C.tt et).size))) (ih.toNat - il.toNat) (im.toNat - il.toNat), ?_, ?_⟩
       ·simp [Instr.sliceAt, Instr.slice, run_underlying htd, hrun, run_sizeOf K hk]
       ·rw [e0, e1, e2]; exact .sl0
      | @sl _ _ _ _ _ _ _ _ k r2 hρ g1 g2 g3 g4 g5 =>
       obtain ⟨_, rfl⟩ := hs _ _ _ rfl
       refine ⟨.slice (if im.toNat = il.toNat then some ⟨k.b, k.t.off p + o * e', none⟩ else some (Addr.add ⟨k.b, k.t.off p + o * e', none⟩ (il.toNat * (C.tt et).size))) (ih.toNat - il.toNat) (im.toNat - il.toNat), ?_, ?_⟩
       ·simp [Instr.sliceAt, Instr.slice, run_underlying htd, hrun, run_sizeOf K hk]
       ·by_cases e0 : im.toNat = il.toNat
        ·have e1 : ih.toNat - il.toNat = 0 := by omega
         have e2 : c' = 0 := by omega
         have e3 : im.toNat - il.toNat = 0 := by omega
         rw [e1, e2, e3]; exact .sl0
        ·rw [if_neg e0, addr_add, ← hee, Nat.add_assoc, ← Nat.add_mul]
         obtain ⟨cs, el, fz, q1, q2⟩ := g5
         refine .sl hρ hc2 hc3 hex (fun i hi => g4 i (by omega)) ⟨cs, el, fz, q1, ?_⟩
         refine Nat.le_trans (Nat.add_le_add_left (Nat.mul_le_mul_right _ ?_) _) q2
         omega
     have hcap : ∃ rc, (∀ q len r, a.eval x = .slice q len r → len = n ∧ r = rc) ∧ n ≤ c ∧ c ≤ rc ∧ (ex = true → rc = c) := by
      generalize a.eval x = u at hr
      cases hr with
      | sl0 => exact ⟨0, fun _ _ _ e => by cases e; exact ⟨rfl, rfl⟩, Nat.le_refl _, Nat.le_refl _, fun _ => rfl⟩
      | sl hρ g1 g2 g3 g4 g5 => exact ⟨_, fun _ _ _ e => by cases e; exact ⟨rfl, rfl⟩, g1, g2, g3⟩
     obtain ⟨rc, hc1, hc2, hc3, hc4⟩ := hcap
     simp only [cutAV] at hc
     split at hc
     ·rename_i il ih e1 e2
      cases hc
      have hbd := hob _ List.mem_cons_self
      have hbs := run_bounds (P := P) h hl h1 h2 (s := true) (len := n) (cap := rc) (im := rc) e1 e2 (.inl ⟨rfl, rfl⟩) (by omega)
      obtain ⟨z, hz1, hz2⟩ := fin (il := il) (ih := ih) (im := rc) (rc := rc) (ex' := ex) (c' := c - il.toNat) hr hc1 (by omega) (by omega) (by omega) (by omega) (by omega) (fun hx => by have := hc4 hx; omega) hbs
      exact Done.pure h (v := z) (by simp [hz1]) (.of_leaf rfl hz2) rfl rfl
     ·rename_i il ih m0 e1 e2
      split at hc
      ·rename_i im _ em
       cases hc
       have hbd := hob _ List.mem_cons_self
       have hne := Option.some_ne_none (α := AV) ‹_›
       have hbs := run_bounds (P := P) h hl h1 h2 (s := true) (len := n) (cap := rc) (im := im) e1 e2 (.inr ⟨m0, rfl, em, hne⟩) (by omega)
       obtain ⟨z, hz1, hz2⟩ := fin (il := il) (ih := ih) (im := im) (rc := rc) (ex' := true) (c' := im.toNat - il.toNat) hr hc1 (by omega) (by omega) (by omega) (by omega) (by omega) (fun hx => by omega) hbs
       exact Done.pure h (v := z) (by simp [hz1]) (.of_leaf rfl hz2) rfl rfl
      ·cases hc
     ·cases hc
    ·cases he
   ·cases he
  ·cases he
 ·cases he
end
end Go.Bu

