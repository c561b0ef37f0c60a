/- Structs, arrays and slices of parts. -/
import Derived.Test.YtoaefniopgmoaaaDoorK4
import Derived.Laws.Tables
import Derived.CallsIn
namespace Go.Bu
section
variable {C : Ctx} {P : Program} {N : Nat} {D : Dom} {S : St} {ρ : Ren} {A : Nat → Prop} {a : Act} {w : World}
theorem rep_setAt {fs : List AV} {vs us : List Value} {i : Nat} {y z : AV} (h : Rep w A ρ (.st fs) vs) (hy : nth? fs i = some y) (hz : Rep w A ρ z us) (hs : y.size = z.size) :
  ∃ pre old post, vs = pre ++ (old ++ post) ∧ pre.length = AV.pre fs i ∧ old.length = us.length ∧ Rep w A ρ (.st (setAt fs i z)) (pre ++ (us ++ post)) := by
 cases h with
 | st g hg e =>
  have hi := nth?_lt hy
  obtain ⟨post, hp⟩ := flat_split hi g
  have hl : us.length = (g i).length := by rw [hz.len, (hg i y hy).len, hs]
  refine ⟨flat i g, g i, post, by rw [e, hp], pre_flat fs g i (Nat.le_of_lt hi) fun j x hx => (hg j x hx).len, hl.symm, ?_⟩
  refine .st (fun j => if j = i then us else g j) (fun j x hx => ?_) (by rw [setAt_len]; exact (flat_set hi g us post hp hl).symm)
  rw [nth?_setAt] at hx
  by_cases hj : i = j
  ·subst hj; simp [hi] at hx; subst hx; simpa using hz
  ·simp [hj] at hx; simpa [Ne.symm hj] using hg j x hx
theorem rep_setArr {n e i : Nat} {f : Nat → AV} {vs us : List Value} {z : AV} (h : Rep w A ρ (.arr n e f) vs) (hi : i < n) (hz : Rep w A (fun _ => none) z us) (hs : us.length = e) :
  ∃ pre old post, vs = pre ++ (old ++ post) ∧ pre.length = i * e ∧ old.length = us.length ∧ Rep w A ρ (.arr n e (fun j => match Nat.beq j i with | true => z | false => f j)) (pre ++ (us ++ post)) := by
 cases h with
 | arr g hl hg e1 =>
  obtain ⟨post, hp⟩ := flat_split hi g
  have hl2 : us.length = (g i).length := by rw [hs, hl i hi]
  refine ⟨flat i g, g i, post, by rw [e1, hp], flat_len fun j hj => hl j (by omega), hl2.symm, ?_⟩
  refine .arr (fun j => if j = i then us else g j) (fun j hj => ?_) (fun j hj => ?_) (flat_set hi g us post hp hl2).symm
  ·by_cases e : j = i
   ·simp [e, hs]
   ·simp [e, hl j hj]
  ·by_cases e : j = i
   ·subst e; simpa [Nat.beq_refl] using hz
   ·simpa [e, beq_false e] using hg j hj
theorem foldl_set (off : Nat) : ∀ (us : List Value) (k : Nat) (cs : Array Value) (pre old post : List Value), cs.toList = pre ++ (old ++ post) → pre.length = off + k → old.length = us.length →
  ((us.zipIdx k).foldl (fun cs (x : Value × Nat) => cs.setIfInBounds (off + x.2) x.1) cs).toList = pre ++ (us ++ post)
 | [], k, cs, pre, old, post, h, hp, ho => by
  obtain rfl : old = [] := List.eq_nil_of_length_eq_zero (by simpa using ho)
  simpa using h
 | u :: us, k, cs, pre, old, post, h, hp, ho => by
  match old, ho with
  | v :: old, ho =>
   simp only [List.zipIdx_cons, List.foldl_cons]
   have := foldl_set off us (k + 1) (cs.setIfInBounds (off + k) u) (pre ++ [u]) old post (by
    rw [Array.toList_setIfInBounds, h, List.set_append_right _ _ (by omega), hp]
    simp) (by simp; omega) (by simpa using ho)
   simpa using this
theorem fill_step {pl : Nat → Option (Nat × Nat)} {cs : Array Value} {i o n : Nat} {v : Value} {r : List (Nat × Value)} {pre old post : List Value} (hp : pl i = some (o, n)) (hc : cs.toList = pre ++ (old ++ post)) (h1 : pre.length = o) (h2 : old.length = v.cells.size) (h3 : v.cells.size = n) :
  ∃ cs' : Array Value, cs'.toList = pre ++ (v.cells.toList ++ post) ∧ Instr.fill pl cs ((i, v) :: r) = Instr.fill pl cs' r := by
 refine ⟨v.cells.zipIdx.foldl (fun cs (c, j) => cs.setIfInBounds (o + j) c) cs, ?_, ?_⟩
 ·have := foldl_set o v.cells.toList 0 cs pre old post hc (by omega) (by simpa using h2)
  rw [← this]
  rw [← Array.foldl_toList]
  simp
 ·have hsz : cs.size = (pre ++ (old ++ post)).length := by rw [← hc]; simp
  simp only [List.length_append] at hsz
  rw [Instr.fill, hp]
  simp only [h3, ne_eq, not_true_eq_false, decide_false, Bool.false_or, decide_eq_true_eq]
  rw [if_neg (by omega)]
theorem notTup {x : AV} (h : noTup x = true) (l : List AV) : x ≠ .tup l := fun e => by subst e; cases h
theorem fill_st (pl : Nat → Option (Nat × Nat)) : ∀ (l : List (Nat × AV)) (zs : List AV) (us : List (Nat × Value)) (cs : Array Value), partsOK pl zs l = true → Rep w A ρ (.st zs) cs.toList → us.map (·.1) = l.map (·.1) →
  (∀ (j : Nat) (i i' : Nat) (x : AV) (v : Value), nth? l j = some (i, x) → nth? us j = some (i', v) → RT w A ρ x v) → ∃ cs', Instr.fill pl cs us = some cs' ∧ Rep w A ρ (.st (setParts zs l)) cs'.toList
 | [], zs, us, cs, hp, hr, hm, hv => by
  obtain rfl : us = [] := by simpa using hm
  exact ⟨cs, rfl, hr⟩
 | (i, x) :: l, zs, us, cs, hp, hr, hm, hv => by
  match us, hm with
  | (i', v) :: us, hm1 =>
   simp only [List.map_cons, List.cons.injEq] at hm1
   obtain ⟨rfl, hm2⟩ := hm1
   unfold partsOK at hp
   split at hp
   ·rename_i z o n hz hpl hnt
    split at hp
    ·rename_i b1 b2 b3
     have hx : RV w A ρ x v := (hv 0 _ _ x v rfl rfl).rv fun l e => notTup hnt l e
     have hlen := hx.cells.len
     have hlen' : v.cells.size = x.size := by simpa using hlen
     have hsz : z.size = x.size := by rw [beq_iff.1 b2, beq_iff.1 b3]
     obtain ⟨pre, old, post, e1, e2, e3, e4⟩ := rep_setAt hr hz hx.cells hsz
     obtain ⟨cs', h1, h2⟩ := fill_step (cs := cs) (r := us) hpl e1 (e2.trans (beq_iff.1 b1)) (by simpa using e3) (by rw [hlen', beq_iff.1 b2])
     obtain ⟨cs'', h3, h4⟩ := fill_st pl l (setAt zs i' x) us cs' hp (by rw [h1]; exact e4) hm2 fun j i i' x v h1 h2 => hv (j + 1) i i' x v h1 h2
     exact ⟨cs'', by rw [h2, h3], h4⟩
    ·cases hp
   ·cases hp
theorem fill_arr (n e : Nat) : ∀ (l : List (Nat × AV)) (f : Nat → AV) (us : List (Nat × Value)) (cs : Array Value), partsA n e l = true → Rep w A ρ (.arr n e f) cs.toList → us.map (·.1) = l.map (·.1) →
  (∀ (j : Nat) (i i' : Nat) (x : AV) (v : Value), nth? l j = some (i, x) → nth? us j = some (i', v) → RT w A ρ x v) → ∃ cs', Instr.fill (fun i => some (i * e, e)) cs us = some cs' ∧ Rep w A ρ (.arr n e (layParts f l)) cs'.toList
 | [], f, us, cs, hp, hr, hm, hv => by
  obtain rfl : us = [] := by simpa using hm
  exact ⟨cs, rfl, hr⟩
 | (i, x) :: l, f, us, cs, hp, hr, hm, hv => by
  match us, hm with
  | (i', v) :: us, hm1 =>
   simp only [List.map_cons, List.cons.injEq] at hm1
   obtain ⟨rfl, hm2⟩ := hm1
   unfold partsA at hp
   split at hp
   ·rename_i b1 b2 b3 hnt
    have hx : RV w A ρ x v := (hv 0 _ _ x v rfl rfl).rv fun l e => notTup hnt l e
    have hlen := hx.cells.len
    have hlen' : v.cells.size = x.size := by simpa using hlen
    obtain ⟨pre, old, post, e1, e2, e3, e4⟩ := rep_setArr (i := i') hr (Nat.le_of_ble_eq_true b1) (hx.cells.noid b3 _) (by rw [hlen, beq_iff.1 b2])
    obtain ⟨cs', h1, h2⟩ := fill_step (pl := fun i => some (i * e, e)) (cs := cs) (r := us) rfl e1 e2 (by simpa using e3) (by rw [hlen', beq_iff.1 b2])
    obtain ⟨cs'', h3, h4⟩ := fill_arr n e l _ us cs' hp (by rw [h1]; exact e4) hm2 fun j i i' x v h1 h2 => hv (j + 1) i i' x v h1 h2
    exact ⟨cs'', by rw [h2, h3], h4⟩
   ·cases hp
theorem Rel.parts (h : Rel C N D S ρ A a w) : ∀ {ps : List (Nat × Operand)} {l : List (Nat × AV)}, Bu.vals C S ps = some l → (ps.map fun x => (x.1, a.eval x.2)).map (·.1) = l.map (·.1) ∧
  ∀ (j : Nat) (i i' : Nat) (x : AV) (v : Value), nth? l j = some (i, x) → nth? (ps.map fun x => (x.1, a.eval x.2)) j = some (i', v) → RT w A ρ x v
 | [], l, hl => by
  cases hl
  exact ⟨rfl, fun j i i' x v h1 => by cases j <;> cases h1⟩
 | (i, x) :: ps, l, hl => by
  simp only [Bu.vals] at hl
  split at hl
  ·rename_i y q hy hq
   cases hl
   obtain ⟨h1, h2⟩ := Rel.parts h hq
   refine ⟨by simpa using h1, fun j i i' x v h3 h4 => ?_⟩
   cases j with
   | zero => simp [nth?] at h3 h4; obtain ⟨_, rfl⟩ := h3; obtain ⟨_, rfl⟩ := h4; exact h.val hy
   | succ j => exact h2 j i i' x v h3 h4
  ·cases hl
theorem info_places (K : CtxOK C P) : ∀ (fields : List Field), allKnown C.tt (fields.map fun f => (f.type, f.offset)) = true →
  ∃ pl : List (Nat × Nat), fields.mapM (fun f => (P.info? f.type).map fun i => (f.offset, i.size)) = some pl ∧ ∀ i, pl[i]? = placesS C.tt (fields.map fun f => (f.type, f.offset)) i
 | [], _ => ⟨[], rfl, fun i => by cases i <;> rfl⟩
 | f :: fs, h => by
  simp only [List.map_cons, allKnown] at h
  split at h
  ·rename_i hk
   obtain ⟨i, z, h1, h2, _⟩ := K.info f.type hk
   obtain ⟨pl, h3, h4⟩ := info_places K fs h
   refine ⟨(f.offset, (C.tt f.type).size) :: pl, by simp [h1, h2, h3], fun i => ?_⟩
   cases i with
   | zero => rfl
   | succ i => simpa [placesS, nth?] using h4 i
  ·cases h
theorem vals_map {ps : Array (Nat × Operand)} : (ps.map fun (i, x) => (i, a.eval x)).toList = ps.toList.map fun x => (x.1, a.eval x.2) := by simp
theorem op_build (K : CtxOK C P) (h : Rel C N D S ρ A a w) {t d : Nat} {ps : Array (Nat × Operand)} {b : Bool} {e : Eff} (he : opEff C S d b (.build t ps) = some e) :
  Done S ρ A w e ((do pure (.value (← Instr.build t (ps.map fun (i, x) => (i, a.eval x)))) : Sem Next).run P w) := by
 simp only [opEff] at he
 have htd := K.td t
 split at he
 ·rename_i l fs hl hd
  split at he
  ·rename_i hp hk
   cases he
   rw [hd] at htd
   obtain ⟨fields, hu, hm, _⟩ := htd
   obtain ⟨it, z, h1, h2, h3, h4, h5, h6⟩ := K.info t (by rw [hd]; rfl)
   obtain ⟨pl, h7, h8⟩ := info_places K fields.toList (by rw [hm]; exact hk)
   rw [hm] at h8
   have hz := (h5 w A ρ).cells
   have hze : zeroAV C.tt 9 t = .st (fs.map fun x => zeroAV C.tt 8 x.1) := by rw [zeroAV, hd]
   rw [hze] at hz
   obtain ⟨h9, h10⟩ := h.parts hl
   have hpl : (fun i => pl.toArray[i]?) = placesS C.tt fs := by funext i; simpa using h8 i
   obtain ⟨cs', h11, h12⟩ := fill_st (placesS C.tt fs) l _ _ z.cells hp hz h9 h10
   have hb : P.built t (ps.map fun (i, x) => (i, a.eval x)).toList = some cs' := by
    rw [vals_map]
    simp only [Program.built, h1, hu, h4, h7, hpl, h11]
   exact Done.pure h (v := .agg cs') (by simp only [Sem.run_bind, run_build w t _ cs' hb, Result.andThen_ok]; rfl) (RV.rt (.inr ⟨rfl, cs'.toList, by simp, h12⟩)) rfl rfl
  ·cases he
 ·rename_i l n et st hl hd
  rw [hd] at htd
  simp only [tdOK] at htd
  obtain ⟨it, z, h1, h2, h3, h4, h5, h6⟩ := K.info t (by rw [hd]; rfl)
  have hz := (h5 w A ρ).cells
  obtain ⟨h9, h10⟩ := h.parts hl
  have fin : ∀ {X : AV} {cs' : Array Value}, (C.tt et).d.known = true → Instr.fill (fun i => some (i * (C.tt et).size, (C.tt et).size)) z.cells (ps.toList.map fun x => (x.1, a.eval x.2)) = some cs' → leaf X = false → Rep w A ρ X cs'.toList →
    RT w A ρ X (.agg cs') → Done S ρ A w { v := X } ((do pure (.value (← Instr.build t (ps.map fun (i, x) => (i, a.eval x)))) : Sem Next).run P w) := by
   intro X cs' hk hf hlf hr hrt
   obtain ⟨ie, ze, g1, g2, _⟩ := K.info et hk
   have hb : P.built t (ps.map fun (i, x) => (i, a.eval x)).toList = some cs' := by
    rw [vals_map]
    simp only [Program.built, h1, htd, h4, g1, g2, hf]
   exact Done.pure h (v := .agg cs') (by simp only [Sem.run_bind, run_build w t _ cs' hb, Result.andThen_ok]; rfl) hrt rfl rfl
  split at he
  ·rename_i hk
   split at he
   ·rename_i hp
    cases he
    have hze : zeroAV C.tt 9 t = .st (List.replicate n (zeroAV C.tt 8 et)) := by rw [zeroAV, hd]
    rw [hze] at hz
    obtain ⟨cs', h11, h12⟩ := fill_st _ l _ _ z.cells hp hz h9 h10
    exact fin hk h11 rfl h12 (RV.rt (.inr ⟨rfl, cs'.toList, by simp, h12⟩))
   ·cases he
  ·rename_i hk
   split at he
   ·rename_i hp
    cases he
    have hze : zeroAV C.tt 9 t = .arr n (C.tt et).size (fun _ => zeroAV C.tt 8 et) := by rw [zeroAV, hd]
    rw [hze] at hz
    obtain ⟨cs', h11, h12⟩ := fill_arr n _ l _ _ z.cells hp hz h9 h10
    exact fin hk h11 rfl h12 (RV.rt (.inr ⟨rfl, cs'.toList, by simp, h12⟩))
   ·cases he
  ·cases he
 ·cases he
theorem nth?_replicate {α : Type} {x y : α} : ∀ {n i : Nat}, nth? (List.replicate n x) i = some y → y = x
 | 0, i, h => by cases i <;> cases h
 | n + 1, 0, h => by cases h; rfl
 | n + 1, i + 1, h => nth?_replicate (n := n) (by simpa [List.replicate_succ, nth?] using h)
theorem pre_all {e : Nat} : ∀ (fs : List AV) (i : Nat), sizesAll e fs = true → i ≤ fs.length → AV.pre fs i = i * e
 | fs, 0, _, _ => by cases fs <;> simp [AV.pre]
 | [], i + 1, _, h => by simp at h
 | x :: r, i + 1, h, hi => by
  simp only [sizesAll] at h
  split at h
  ·rename_i hb
   rw [AV.pre, pre_all r i h (by simpa using hi), beq_iff.1 hb, Nat.succ_mul, Nat.add_comm]
  ·cases h
theorem row_st {fs : List AV} {e : Nat} (h : sizesAll e fs = true) : (AV.st fs).row [] e fs.length := fun i hi => by
 obtain ⟨x, hx⟩ := nth?_some hi
 exact ⟨by simp [AV.vp, hx], by simp [AV.off, hx, pre_all fs i h (Nat.le_of_lt hi)]⟩
theorem setParts_len : ∀ (l : List (Nat × AV)) (fs : List AV), (setParts fs l).length = fs.length
 | [], _ => rfl
 | (i, x) :: r, fs => by rw [setParts, setParts_len r, setAt_len]
theorem intRow_get {k : IntKind} : ∀ {fs : List AV} {is : List Int}, intRow k fs = some is → ∀ i x, nth? fs i = some x → x = .v (.int k (nthD is i 0))
 | [], _, _, i, x, hx => by cases i <;> cases hx
 | y :: r, is, h, i, x, hx => by
  simp only [intRow] at h
  split at h
  ·rename_i k' a
   split at h
   ·rename_i hk
    split at h
    ·rename_i l hl
     cases h
     cases i with
     | zero => cases hx; rw [kEq_iff.1 hk]; rfl
     | succ i => exact intRow_get hl i x hx
    ·cases h
   ·cases h
  ·cases h
theorem Rep.ints {w : World} {A : Nat → Prop} {ρ : Ren} {k : IntKind} {fs : List AV} {is : List Int} {vs : List Value} (h : Rep w A ρ (.st fs) vs) (hi : intRow k fs = some is) : Rep w A ρ (.arr fs.length 1 fun i => .v (.int k (nthD is i 0))) vs := by
 cases h with
 | st g h1 h2 =>
  have h3 : ∀ i, i < fs.length → g i = [.int k (nthD is i 0)] := fun i hi' => by
   obtain ⟨x, hx⟩ := nth?_some hi'
   have hr := h1 i x hx
   rw [intRow_get hi i x hx] at hr
   generalize g i = y at hr
   cases hr; rfl
  exact .arr g (fun i hi' => by rw [h3 i hi']; rfl) (fun i hi' => by rw [h3 i hi']; exact .v rfl) h2
theorem op_buildSlice (K : CtxOK C P) (h : Rel C N D S ρ A a w) {t n d : Nat} {ps : Array (Nat × Operand)} {b : Bool} {e : Eff} (he : opEff C S d b (.buildSlice t n ps) = some e) :
  Done S ρ A w e ((do pure (.value (← Instr.buildSlice t n (ps.map fun (i, x) => (i, a.eval x)))) : Sem Next).run P w) := by
 simp only [opEff] at he
 have htd := K.td t
 split at he
 ·rename_i l et id hl hd hid
  rw [hd] at htd
  simp only [tdOK] at htd
  split at he
  ·rename_i hp hk hn
   split at he
   ·rename_i hall
    obtain ⟨it, z, h1, h2, h3, h4, h5, h6⟩ := K.info et hk
    have hzc : ∀ (w : World) (A : Nat → Prop) (ρ : Ren), Rep w A ρ (zeroAV C.tt 9 et) z.cells.toList := fun w A ρ => (h5 w A ρ).cells
    have hzs : z.cells.size = (C.tt et).size := by
     have := (hzc w A ρ).len
     rw [fits_size h6] at this
     simpa using this
    obtain ⟨h9, h10⟩ := h.parts hl
    have hrow : Rep w A ρ (.st (List.replicate n (zeroAV C.tt 9 et))) (madeCells z.cells (n * (C.tt et).size)).toList := by
     refine .st (fun _ => z.cells.toList) (fun i x hx => ?_) (by rw [made_flat z.cells (C.tt et).size n hzs]; simp)
     rw [nth?_replicate hx]; exact hzc w A ρ
    obtain ⟨cs', h11, h12⟩ := fill_st _ l _ _ (madeCells z.cells (n * (C.tt et).size)) hp hrow h9 h10
    have hrun : (Instr.buildSlice t n (ps.map fun (i, x) => (i, a.eval x))).run P w = .ok (.slice (some ⟨w.heap.size, 0, none⟩) n n) (pushed w (.cells cs' et (0, 0))) := by
     have hle := Nat.le_of_ble_eq_true hn
     have n1 : ¬ (16777216 < n * (C.tt et).size) := by omega
     have h11' : Instr.fill (fun i => some (i * (C.tt et).size, (C.tt et).size)) (Array.map (fun x => z.cells[x % z.cells.size]!) (Array.range (n * (C.tt et).size))) (ps.toList.map fun x => (x.1, a.eval x.2)) = some cs' := h11
     by_cases h0 : n * (C.tt et).size = 0
     ·have h00 : n = 0 ∨ (C.tt et).size = 0 := Nat.mul_eq_zero.1 h0
      rw [h0] at h11'
      simp [Instr.buildSlice, run_underlying htd, run_sizeOf K hk, h0]
      simp [Array.range_zero'] at h11'
      simp [Array.range_zero', h11', newRow, pushed]
     ·have h00 : ¬ (n = 0 ∨ (C.tt et).size = 0) := fun e => h0 (Nat.mul_eq_zero.2 e)
      simp [Instr.buildSlice, run_underlying htd, run_sizeOf K hk, n1, h0, zeroValue, typeInfo, h1, h4, h11', newRow, pushed]
    have hcl : cs'.size = n * (C.tt et).size := by
     have e1 := h12.len
     rw [AV.size, sizes_pre, pre_all _ _ hall (Nat.le_refl _), setParts_len] at e1
     simpa using e1
    have fin : ∀ {X : AV}, Rep w A ρ X cs'.toList → X.row [] (C.tt et).size n → Done S ρ A w { v := .sl id [] 0 n n true (C.tt et).size, wr := [(id, .c X)] } ((do pure (.value (← Instr.buildSlice t n (ps.map fun (i, x) => (i, a.eval x)))) : Sem Next).run P w) := fun {X} hX hr => by
     refine Done.new h (newId_fresh hid) (o := .cells cs' et (0, 0)) (v := .slice (some ⟨w.heap.size, 0, none⟩) n n) (t := X)
      (by simp only [Sem.run_bind, hrun, Result.andThen_ok]; rfl) rfl rfl fun ρ' hid' hext kp => ⟨⟨_, et, _, cs'.toList, [], pushed_new _ _, .inl rfl, by simp, hX.keep kp, fun _ h => by cases h⟩, fun t' ht => by cases ht; exact .refl _, .of_leaf rfl ?_⟩
     have := Rep.sl (w := pushed w (.cells cs' et (0, 0))) (A := A) (ρ := ρ') (p := []) (o := 0) (n := n) (c := n) (ex := true) (e := (C.tt et).size) (rc := n) hid' (Nat.le_refl _) (Nat.le_refl _) (fun _ => rfl) (by simpa using hr)
      ⟨_, et, _, pushed_new _ _, by simp [hcl, off_nil]⟩
     simpa [off_nil] using this
    have hlen : (setParts (List.replicate n (zeroAV C.tt 9 et)) l).length = n := by rw [setParts_len, List.length_replicate]
    split at he
    ·cases he
     have hr := row_st hall
     rw [hlen] at hr
     exact fin h12 hr
    ·split at he
     ·rename_i k hkd he1
      split at he
      ·rename_i is his
       cases he
       have e1 : (C.tt et).size = 1 := beq_iff.1 he1
       refine fin ?_ (by simpa using row_arr n (C.tt et).size _)
       rw [e1]
       have := h12.ints his
       rw [hlen] at this
       exact this
      ·cases he
     ·cases he
   ·cases he
  ·cases he
 ·cases he
end
end Go.Bu
namespace Go.Bu
section
variable {C : Ctx} {P : Program} {N : Nat} {D : Dom} {S : St} {ρ : Ren} {A : Nat → Prop} {a : Act} {w : World}
theorem op_done (K : CtxOK C P) (h : Rel C N D S ρ A a w) {o : Oper} {d : Nat} {i : Bool} {e : Eff} (he : opEff C S d i o.op = some e) (hob : AllP e.ob) : Done S ρ A w e ((execOp a.eval o).run P w) := by
 have hx : ∀ {op : Op}, o.op = op → opEff C S d i op = some e := fun e => by rw [← e]; exact he
 unfold execOp
 cases ho : o.op with
 | move x => exact op_move h (hx ho)
 | assign x => exact op_move h (x := x) (d := d) (i := i) (by have := hx ho; simp only [opEff] at this ⊢; exact this)
 | pick c x y => exact op_pick h (hx ho)
 | alloc t => exact op_alloc K h (hx ho)
 | box t x => exact op_box h (hx ho)
 | build t ps => exact op_build K h (hx ho)
 | buildSlice t n ps => exact op_buildSlice K h (hx ho)
 | load t x => exact op_load K h (hx ho)
 | store t x y => exact op_store K h (hx ho) hob
 | nilCheck x => have := op_nilCheck (P := P) h ho (hx ho); unfold execOp at this; rw [ho] at this; exact this
 | binOp b t x y t' => have := op_binOp K h (hx ho) hob; simpa using this
 | unOp u t x => exact op_unOp h (hx ho) hob
 | convert s t x => exact op_convert K h (hx ho) hob
 | sliceToArrayPointer t x => exact op_arrayAt K h (hx ho) hob
 | makeInterface t x => exact op_makeInterface K h (hx ho)
 | makeFunc f fi ca => exact op_makeFunc h (hx ho)
 | makeSlice t l c => exact op_makeSlice K h (hx ho) hob
 | slice t x lo hi mx => exact op_slice K h (hx ho) hob
 | fieldAddr t x f => exact op_fieldAddr K h (hx ho)
 | field t x f => exact op_field K h (hx ho)
 | indexAddr t x y => exact op_indexAddr K h (hx ho) hob
 | index t x y => exact op_index K h (hx ho) hob
 | extract x ix => exact op_extract h (hx ho)
 | call c =>
  have he := hx ho
  simp only [opEff] at he
  split at he
  ·rename_i b hc
   split at he
   ·rename_i l hl
    simp [resolve, hc, invoke]
    exact builtin_done K h hl he hob
   ·cases he
  ·cases he
 | _ => have he := hx ho; simp [opEff] at he
end
end Go.Bu
namespace Go.Bu
section
variable {w : World} {A : Nat → Prop} {ρ : Ren}
theorem rens_get {m : Nat → Option Nat} : ∀ (n : Nat) {fs gs : List AV}, ren.rens m n fs = some gs → gs.length = fs.length ∧ ∀ i x, nth? fs i = some x → ∃ k y, k < n ∧ nth? gs i = some y ∧ ren m k x = some y
 | 0, fs, gs, h => by simp [ren.rens] at h
 | n + 1, [], gs, h => by simp [ren.rens] at h; subst h; exact ⟨rfl, fun i x hx => by cases i <;> cases hx⟩
 | n + 1, x :: r, gs, h => by
  simp only [ren.rens] at h
  split at h
  ·rename_i y q hy hq
   cases h
   obtain ⟨h1, h2⟩ := rens_get n hq
   refine ⟨by simp [h1], fun i z hz => ?_⟩
   cases i with
   | zero => cases hz; exact ⟨n, y, by omega, rfl, hy⟩
   | succ i =>
    obtain ⟨k, u, h3, h4, h5⟩ := h2 i z hz
    exact ⟨k, u, by omega, h4, h5⟩
  ·cases h
theorem ren_leaf {m : Nat → Option Nat} {n : Nat} {x y : AV} (h : ren m n x = some y) : leaf y = leaf x := by
 cases n with
 | zero => simp [ren] at h
 | succ n => cases x <;> simp only [ren] at h <;> (try split at h) <;> cases h <;> rfl
theorem Rep.ren {m : Nat → Option Nat} {x : AV} {vs : List Value} (h : Rep w A ρ x vs) : ∀ {ρ2 : Ren} {n : Nat} {y : AV}, ren m n x = some y → (∀ k k' l, m k = some k' → ρ k = some l → ρ2 k' = some l) → Rep w A ρ2 y vs := by
 induction h with
 | v h => intro ρ2 n y hr hm; cases n with | zero => simp [Bu.ren] at hr | succ n => simp only [Bu.ren] at hr; cases hr; exact .v h
 | sb => intro ρ2 n y hr hm; cases n with | zero => simp [Bu.ren] at hr | succ n => simp only [Bu.ren] at hr; cases hr; exact .sb
 | st g h e ih =>
  intro ρ2 n y hr hm
  cases n with
  | zero => simp [Bu.ren] at hr
  | succ n =>
   simp only [Bu.ren] at hr
   split at hr
   ·rename_i gs hg
    cases hr
    obtain ⟨h1, h2⟩ := rens_get n hg
    refine .st g (fun i x hx => ?_) (by rw [h1]; exact e)
    obtain ⟨z, hz⟩ := nth?_some (l := _) (i := i) (by have := nth?_lt hx; rw [h1] at this; exact this)
    obtain ⟨k, u, h3, h4, h5⟩ := h2 i z hz
    rw [hx] at h4; cases h4
    exact ih i z hz h5 hm
   ·cases hr
 | arr g hl h e ih => intro ρ2 n y hr hm; cases n with | zero => simp [Bu.ren] at hr | succ n => simp only [Bu.ren] at hr; cases hr; exact .arr g hl h e
 | dat0 h => intro ρ2 n y hr hm; cases n with | zero => simp [Bu.ren] at hr | succ n => simp only [Bu.ren] at hr; cases hr; exact .dat0 h
 | dat g ha hc hex hl hm0 h ih => intro ρ2 n y hr hm; cases n with | zero => simp [Bu.ren] at hr | succ n => simp only [Bu.ren] at hr; cases hr; exact .dat g ha hc hex hl hm0 h
 | pd g ha hm0 h ih => intro ρ2 n y hr hm; cases n with | zero => simp [Bu.ren] at hr | succ n => simp only [Bu.ren] at hr; cases hr; exact .pd g ha hm0 h
 | sl0 =>
  intro ρ2 n y hr hm
  cases n with
  | zero => simp [Bu.ren] at hr
  | succ n =>
   simp only [Bu.ren] at hr
   split at hr
   ·cases hr; exact .sl0
   ·cases hr
 | sl hr0 h1 h2 h3 h4 h5 =>
  intro ρ2 n y hr hm
  cases n with
  | zero => simp [Bu.ren] at hr
  | succ n =>
   simp only [Bu.ren] at hr
   split at hr
   ·rename_i k' hk'
    cases hr; exact .sl (hm _ _ _ hk' hr0) h1 h2 h3 h4 h5
   ·cases hr
 | ptr hr0 hv =>
  intro ρ2 n y hr hm
  cases n with
  | zero => simp [Bu.ren] at hr
  | succ n =>
   simp only [Bu.ren] at hr
   split at hr
   ·rename_i k' hk'
    cases hr; exact .ptr (hm _ _ _ hk' hr0) hv
   ·cases hr
 | mp hr0 =>
  intro ρ2 n y hr hm
  cases n with
  | zero => simp [Bu.ren] at hr
  | succ n =>
   simp only [Bu.ren] at hr
   split at hr
   ·rename_i k' hk'
    cases hr; exact .mp (hm _ _ _ hk' hr0)
   ·cases hr
 | fn vs hl hf h ih =>
  intro ρ2 n y hr hm
  cases n with
  | zero => simp [Bu.ren] at hr
  | succ n =>
   simp only [Bu.ren] at hr
   split at hr
   ·rename_i gs hg
    cases hr
    obtain ⟨h1, h2⟩ := rens_get n hg
    have back : ∀ i x, nth? gs i = some x → ∃ z k, nth? _ i = some z ∧ Bu.ren m k z = some x := fun i x hx => by
     obtain ⟨z, hz⟩ := nth?_some (l := _) (i := i) (by have := nth?_lt hx; rw [h1] at this; exact this)
     obtain ⟨k, u, h3, h4, h5⟩ := h2 i z hz
     rw [hx] at h4; cases h4
     exact ⟨z, k, hz, h5⟩
    refine .fn vs (by rw [h1]; exact hl) (fun i x hx => ?_) (fun i x v hx hv => ?_)
    ·obtain ⟨z, k, hz, hk⟩ := back i x hx
     rw [ren_leaf hk]; exact hf i z hz
    ·obtain ⟨z, k, hz, hk⟩ := back i x hx
     exact ih i z v hz hv hk hm
   ·cases hr
 | ifc1 hl h ih =>
  intro ρ2 n y hr hm
  cases n with
  | zero => simp [Bu.ren] at hr
  | succ n =>
   simp only [Bu.ren] at hr
   split at hr
   ·rename_i z hz
    cases hr
    exact .ifc1 (by rw [ren_leaf hz]; exact hl) (ih hz hm)
   ·cases hr
 | ifcA hl h ih =>
  intro ρ2 n y hr hm
  cases n with
  | zero => simp [Bu.ren] at hr
  | succ n =>
   simp only [Bu.ren] at hr
   split at hr
   ·rename_i z hz
    cases hr
    exact .ifcA (by rw [ren_leaf hz]; exact hl) (ih hz hm)
   ·cases hr
theorem RV.ren {m : Nat → Option Nat} {x y : AV} {v : Value} {ρ2 : Ren} {n : Nat} (h : RV w A ρ x v) (hr : ren m n x = some y) (hm : ∀ k k' l, m k = some k' → ρ k = some l → ρ2 k' = some l) : RV w A ρ2 y v := by
 rcases h with ⟨hl, h⟩ | ⟨hl, vs, e, h⟩
 ·exact .inl ⟨by rw [ren_leaf hr]; exact hl, h.ren hr hm⟩
 ·exact .inr ⟨by rw [ren_leaf hr]; exact hl, vs, e, h.ren hr hm⟩
theorem RT.ren {m : Nat → Option Nat} {x y : AV} {v : Value} {ρ2 : Ren} {n : Nat} (h : RT w A ρ x v) (hr : ren m n x = some y) (hm : ∀ k k' l, m k = some k' → ρ k = some l → ρ2 k' = some l) : RT w A ρ2 y v := by
 by_cases ht : ∃ l, x = .tup l
 ·obtain ⟨l, rfl⟩ := ht
  obtain ⟨vs, e, hl, h⟩ := h
  cases n with
  | zero => simp [Bu.ren] at hr
  | succ n =>
   simp only [Bu.ren] at hr
   split at hr
   ·rename_i gs hg
    cases hr
    obtain ⟨h1, h2⟩ := rens_get n hg
    refine ⟨vs, e, by rw [h1]; exact hl, fun i y u hy hu => ?_⟩
    obtain ⟨z, hz⟩ := nth?_some (l := l) (i := i) (by have := nth?_lt hy; rw [h1] at this; exact this)
    obtain ⟨k, q, h3, h4, h5⟩ := h2 i z hz
    rw [hy] at h4; cases h4
    exact (h i z u hz hu).ren h5 hm
   ·cases hr
 ·have hv := h.rv fun l e => ht ⟨l, e⟩
  have := hv.ren hr hm
  exact this.rt
theorem ren_row1 {m : Nat → Option Nat} {n : Nat} {x y : AV} (h : ren m n x = some y) (h1 : row1 x = true) : row1 y = true := by
 unfold row1 at h1
 split at h1
 ·cases n with
  | zero => cases h
  | succ n => cases h; rfl
 ·cases h1
theorem ren_shape {m : Nat → Option Nat} : ∀ (n : Nat) {x y : AV}, ren m n x = some y → SameShape x y
 | 0, x, y, h => by simp [ren] at h
 | n + 1, x, y, h => by
  by_cases hl : leaf x = true
  ·exact .of_leaf hl (by rw [ren_leaf h]; exact hl)
  ·cases x <;> simp [leaf] at hl <;> simp only [ren] at h
   ·split at h
    ·rename_i fs gs hg
     cases h
     obtain ⟨h1, h2⟩ := rens_get n hg
     refine shapes_st _ _ (fun i x y hx hy => ?_) h1.symm
     obtain ⟨k, u, h3, h4, h5⟩ := h2 i x hx
     rw [hy] at h4; cases h4
     exact ren_shape k h5
    ·cases h
   ·cases h; exact .refl _
   ·split at h
    ·cases h; exact ⟨rfl, rfl, fun p => by cases p <;> simp [AV.vp], fun p hp => by cases p <;> simp [AV.off]⟩
    ·cases h
termination_by n => n
end
end Go.Bu
namespace Go.Bu
section
variable {w : World} {A : Nat → Prop} {ρ : Ren}
theorem lends_get {H : List (Nat × Blk)} : ∀ (n : Nat) {fs gs : List AV}, lend.lends H n fs = some gs → gs.length = fs.length ∧ ∀ i x, nth? fs i = some x → ∃ k y, k < n ∧ nth? gs i = some y ∧ lend H k x = some y
 | 0, fs, gs, h => by simp [lend.lends] at h
 | n + 1, [], gs, h => by simp [lend.lends] at h; subst h; exact ⟨rfl, fun i x hx => by cases i <;> cases hx⟩
 | n + 1, x :: r, gs, h => by
  simp only [lend.lends] at h
  split at h
  ·rename_i y q hy hq
   cases h
   obtain ⟨h1, h2⟩ := lends_get n hq
   refine ⟨by simp [h1], fun i z hz => ?_⟩
   cases i with
   | zero => cases hz; exact ⟨n, y, by omega, rfl, hy⟩
   | succ i =>
    obtain ⟨k, u, h3, h4, h5⟩ := h2 i z hz
    exact ⟨k, u, by omega, h4, h5⟩
  ·cases h
theorem lend_leaf {H : List (Nat × Blk)} {n : Nat} {x y : AV} (h : lend H n x = some y) : leaf y = leaf x := by
 cases n with
 | zero => simp [lend] at h
 | succ n =>
  cases x <;> simp only [lend] at h
  case v => cases h; rfl
  case sb => cases h; rfl
  case arr => cases h; rfl
  case dat => cases h; rfl
  case pd => cases h; rfl
  case mp => cases h
  case st => split at h <;> cases h; rfl
  case tup => split at h <;> cases h; rfl
  case fn => split at h <;> cases h; rfl
  case ifc => split at h <;> cases h; rfl
  case ptr =>
   split at h
   ·split at h
    ·split at h <;> cases h; rfl
    ·cases h
   ·cases h
  case sl =>
   split at h
   ·split at h
    ·split at h <;> cases h; rfl
    ·split at h <;> cases h; rfl
    ·cases h
   ·cases h
theorem HeapRel.block {H : List (Nat × Blk)} (h : HeapRel w A ρ H) {id : Nat} {t : AV} (hl : look H id = some (.c t)) {l : Loc} (hρ : ρ id = some l) :
  ∃ (cs : Array Value) (el : TypeId) (fz : Nat × Nat) (vs rest : List Value), w.heap[l.b]? = some (.cells cs el fz) ∧ cs.toList = vs ++ rest ∧ Rep w A ρ t vs ∧ SameShape l.t t := by
 rcases h.blk id _ hl with ⟨l0, h1, ⟨cs, el, fz, vs, rest, e1, e2, e3, e4, _⟩, h3⟩ | ⟨h1, _⟩
 ·rw [hρ] at h1; cases h1
  exact ⟨cs, el, fz, vs, rest, e1, e3, e4, h3 t rfl⟩
 ·rw [hρ] at h1; cases h1
theorem row_parts {t x : AV} {p : List Nat} {e k : Nat} {vs : List Value} (hs : t.sub p = some x) (hv : t.vp p) (hrow : t.row p e k) (hr : Rep w A ρ t vs) :
    ∀ i, i < k → ∃ us y, x.sub [i] = some y ∧ Rep w A ρ y us ∧ (y.size = e → us.length = e) ∧ ∀ j, j < us.length → vs[t.off p + (i * e + j)]? = us[j]? := by
  intro i hi
  obtain ⟨h1, h2⟩ := hrow i hi
  have h3 := (sub_vp p hs [i] hv).1 h1
  have hsub : ∀ (y : AV), x.sub [i] = some y → t.sub (p ++ [i]) = some y := by
    intro y hy
    have key : ∀ (p : List Nat) {t : AV}, t.sub p = some x → t.sub (p ++ [i]) = some y := by
      intro p
      induction p with
      | nil => intro t h; have e0 : t = x := by cases t <;> simpa [AV.sub] using h
               subst e0; exact hy
      | cons j p ih =>
        intro t h
        cases t <;> simp only [AV.sub, List.cons_append] at h ⊢ <;> try (cases h; done)
        · split at h
          · exact ih h
          · cases h
        · exact ih h
    exact key p hs
  have hx : ∃ y, x.sub [i] = some y := by
    cases x <;> simp only [AV.vp] at h3 <;> try exact h3.elim
    · split at h3
      · rename_i fs y hy; exact ⟨y, by simp [AV.sub, hy]⟩
      · exact h3.elim
    · exact ⟨_, by simp only [AV.sub]; rfl⟩
  obtain ⟨y, hy⟩ := hx
  obtain ⟨pre, us, post, e1, e2, e3⟩ := hr.part (p ++ [i]) h1 (hsub y hy)
  refine ⟨us, y, hy, e3, fun he => by rw [e3.len, he], fun j hj => ?_⟩
  rw [e1, ← Nat.add_assoc, ← h2, ← e2, List.getElem?_append_right (by omega), show pre.length + j - pre.length = j by omega, List.getElem?_append_left hj]
theorem Rep.more {A2 : Nat → Prop} {x : AV} {vs : List Value} (h : Rep w A ρ x vs) (hA : ∀ b, A b → A2 b) : Rep w A2 ρ x vs :=
 h.keep ⟨fun b hb => ⟨hA b hb, rfl⟩, fun _ _ h => h, fun _ c _ fz h => ⟨c, fz, h, rfl⟩⟩
theorem lend_rep {H : List (Nat × Blk)} (hH : HeapRel w A ρ H) : ∀ (n : Nat) {x y : AV} {vs : List Value}, lend H n x = some y → Rep w A ρ x vs → ∀ ρ2, Rep w (fun b => A b ∨ own ρ H b) ρ2 y vs
 | 0, x, y, vs, h, _ => by simp [lend] at h
 | n + 1, x, y, vs, h, hr => by
  intro ρ2
  have same : x.noid = true → Rep w (fun b => A b ∨ own ρ H b) ρ2 x vs := fun hn => (hr.noid hn ρ2).more fun _ h => .inl h
  cases hr with
  | v hn => simp only [lend] at h; cases h; exact same rfl
  | sb => simp only [lend] at h; cases h; exact same rfl
  | st g hg e =>
   simp only [lend] at h
   split at h
   ·rename_i gs hgs
    cases h
    obtain ⟨h1, h2⟩ := lends_get n hgs
    refine .st g (fun i x hx => ?_) (by rw [h1]; exact e)
    obtain ⟨z, hz⟩ := nth?_some (l := _) (i := i) (by have := nth?_lt hx; rw [h1] at this; exact this)
    obtain ⟨k, u, h3, h4, h5⟩ := h2 i z hz
    rw [hx] at h4; cases h4
    exact lend_rep hH k h5 (hg i z hz) ρ2
   ·cases h
  | arr g hl hg e => simp only [lend] at h; cases h; exact same rfl
  | dat0 hx => simp only [lend] at h; cases h; exact same rfl
  | dat g ha hc hex hl hm hg => simp only [lend] at h; cases h; exact same rfl
  | pd g ha hm hg => simp only [lend] at h; cases h; exact same rfl
  | sl0 =>
   simp only [lend] at h
   split at h
   ·split at h
    ·split at h <;> cases h; exact .dat0 fun hx => by cases hx
    ·split at h <;> cases h; exact .dat0 fun hx => by cases hx
    ·cases h
   ·cases h
  | sl hρ h1 h2 h3 h4 h5 =>
   rename_i id p o l c ex e k rc
   simp only [lend] at h
   split at h
   ·rename_i t hb
    by_cases hl0 : l = 0
    ·subst hl0
     split at h
     ·split at h <;> cases h; exact .dat0 fun hx => by cases hx
     ·split at h <;> cases h; exact .dat0 fun hx => by cases hx
     ·cases h
    ·obtain ⟨cs, el, fz, vs0, rest, e1, e3, e4, e5⟩ := hH.block hb hρ
     have hvp := row_vp h4 (by omega)
     have hvp' := (e5.vp p).1 hvp
     have hrow := vp_shape_row e5 hvp h4
     have hown : own ρ H k.b := ⟨id, k, by rw [hb]; simp, hρ, rfl⟩
     have build : ∀ (F : Nat → AV), (∀ i, i < l → ∃ us : List Value, us.length = e ∧ Rep w (fun b => A b ∨ own ρ H b) (fun _ => none) (F i) us ∧ ∀ j, j < e → vs0[t.off p + ((o + i) * e + j)]? = us[j]?) →
       Rep w (fun b => A b ∨ own ρ H b) ρ2 (.dat l false e F) [.slice (some ⟨k.b, k.t.off p + o * e, none⟩) l rc] := by
      intro F hF
      refine .dat (fun i => if hi : i < l then Classical.choose (hF i hi) else []) (.inr hown) (Nat.le_trans h1 h2) (fun hx => by cases hx) (fun i hi => ?_) (fun i j hi hj => ?_) (fun i hi => ?_)
      ·simp only [hi, dif_pos]; exact (Classical.choose_spec (hF i hi)).1
      ·simp only [hi, dif_pos]
       have hsp := (Classical.choose_spec (hF i hi)).2.2 j hj
       have hlen := (Classical.choose_spec (hF i hi)).1
       rw [← hsp]
       have hsome : ∃ u, vs0[t.off p + ((o + i) * e + j)]? = some u := by
        rw [hsp]; exact ⟨_, List.getElem?_eq_getElem (by rw [hlen]; exact hj)⟩
       obtain ⟨u, hu⟩ := hsome
       have hi' := (List.getElem?_eq_some_iff.1 hu).1
       have e7 : cs[t.off p + ((o + i) * e + j)]? = vs0[t.off p + ((o + i) * e + j)]? := by
        rw [← Array.getElem?_toList, e3, List.getElem?_append_left hi']
       have e8 : k.t.off p + o * e + (i * e + j) = t.off p + ((o + i) * e + j) := by rw [e5.off p hvp, Nat.add_mul]; omega
       rw [e8]
       simp [World.cell?, e1, e7, hu]
      ·simp only [hi, dif_pos]; exact (Classical.choose_spec (hF i hi)).2.1
     split at h
     ·rename_i n0 e' f hs
      split at h
      ·rename_i hee
       obtain rfl := beq_iff.1 hee
       cases h
       refine build _ fun i hi => ?_
       obtain ⟨us, g1, g2, g3⟩ := row_elems (f := f) hs hvp' hrow e4 (.inl ⟨_, _, rfl, fun _ => rfl⟩) (o + i) (by omega)
       exact ⟨us, g1, g2.more fun _ h => .inl h, g3⟩
      ·cases h
     ·rename_i fs hs
      split at h
      ·rename_i gs hsz hgs
       cases h
       obtain ⟨q1, q2⟩ := lends_get n hgs
       refine build _ fun i hi => ?_
       obtain ⟨us, y, g1, g2, g3, g4⟩ := row_parts hs hvp' hrow e4 (o + i) (by omega)
       have hy : nth? fs (o + i) = some y := by
        simp only [AV.sub] at g1
        split at g1
        ·rename_i z hz
         have : z = y := by cases z <;> simpa [AV.sub] using g1
         rw [← this]; exact hz
        ·cases g1
       obtain ⟨k', z, k1, k2, k3⟩ := q2 _ y hy
       have hlen := g3 (sizesAll_mem hsz _ y hy)
       exact ⟨us, hlen, by rw [nthD_nth? k2]; exact lend_rep hH k' k3 g2 _, fun j hj => g4 j (by omega)⟩
      ·cases h
     ·cases h
   ·cases h
  | ptr hρ hvp =>
   rename_i id p k
   simp only [lend] at h
   split at h
   ·rename_i t hb
    split at h
    ·rename_i y0 hs
     split at h
     ·rename_i z hz
      cases h
      obtain ⟨cs, el, fz, vs0, rest, e1, e3, e4, e5⟩ := hH.block hb hρ
      obtain ⟨pre, us, post, q1, q2, q3⟩ := e4.part p ((e5.vp p).1 hvp) hs
      have hown : own ρ H k.b := ⟨id, k, by rw [hb]; simp, hρ, rfl⟩
      refine .pd us (.inr hown) (fun j hj => ?_) (lend_rep hH n hz q3 _)
      exact cell_of e1 (pre := pre) (us := us) (post := post ++ rest) (by rw [e3, q1]; simp) (by rw [q2, e5.off p hvp]) j hj
     ·cases h
    ·cases h
   ·cases h
  | mp hρ => simp only [lend] at h; cases h
  | fn us hl hf hg =>
   simp only [lend] at h
   split at h
   ·rename_i gs hgs
    cases h
    obtain ⟨h1, h2⟩ := lends_get n hgs
    have back : ∀ i x, nth? gs i = some x → ∃ z k, k < n ∧ nth? _ i = some z ∧ lend H k z = some x := fun i x hx => by
     obtain ⟨z, hz⟩ := nth?_some (l := _) (i := i) (by have := nth?_lt hx; rw [h1] at this; exact this)
     obtain ⟨k, u, h3, h4, h5⟩ := h2 i z hz
     rw [hx] at h4; cases h4
     exact ⟨z, k, h3, hz, h5⟩
    refine .fn us (by rw [h1]; exact hl) (fun i x hx => ?_) (fun i x v hx hv => ?_)
    ·obtain ⟨z, k, _, hz, hk⟩ := back i x hx
     rw [lend_leaf hk]; exact hf i z hz
    ·obtain ⟨z, k, hkn, hz, hk⟩ := back i x hx
     exact lend_rep hH k hk (hg i z v hz hv) ρ2
   ·cases h
  | ifc1 hl hg =>
   simp only [lend] at h
   split at h
   ·rename_i z hz
    cases h
    exact .ifc1 (by rw [lend_leaf hz]; exact hl) (lend_rep hH n hz hg ρ2)
   ·cases h
  | ifcA hl hg =>
   simp only [lend] at h
   split at h
   ·rename_i z hz
    cases h
    exact .ifcA (by rw [lend_leaf hz]; exact hl) (lend_rep hH n hz hg ρ2)
   ·cases h
termination_by n => n
decreasing_by all_goals omega
theorem lend_rv {H : List (Nat × Blk)} (hH : HeapRel w A ρ H) {n : Nat} {x y : AV} {v : Value} (h : lend H n x = some y) (hr : RV w A ρ x v) (ρ2 : Ren) : RV w (fun b => A b ∨ own ρ H b) ρ2 y v := by
 rcases hr with ⟨hl, hr⟩ | ⟨hl, vs, e, hr⟩
 ·exact .inl ⟨by rw [lend_leaf h]; exact hl, lend_rep hH n h hr ρ2⟩
 ·exact .inr ⟨by rw [lend_leaf h]; exact hl, vs, e, lend_rep hH n h hr ρ2⟩
theorem Rep.noMem {x : AV} {vs : List Value} (h : Rep w A ρ x vs) : Bu.noMem x → ∀ A' ρ', Rep w A' ρ' x vs := by
 have many : ∀ (fs : List AV), noMem.noMems fs → ∀ i x, nth? fs i = some x → Bu.noMem x := by
  intro fs
  induction fs with
  | nil => intro _ i x hx; cases i <;> cases hx
  | cons y r ih =>
   intro hn i x hx
   simp only [noMem.noMems] at hn
   cases i with
   | zero => cases hx; exact hn.1
   | succ i => exact ih hn.2 i x hx
 induction h with
 | v h => exact fun _ _ _ => .v h
 | sb => exact fun _ _ _ => .sb
 | st g h e ih => intro hn A' ρ'; simp only [Bu.noMem] at hn; exact .st g (fun i x hx => ih i x hx (many _ hn i x hx) A' ρ') e
 | arr g hl h e ih => intro hn A' ρ'; simp only [Bu.noMem] at hn; exact .arr g hl (fun i hi => ih i hi (hn i hi) A' _) e
 | _ => intro hn; simp [Bu.noMem] at hn
end
end Go.Bu
namespace Go.Bu
theorem memb_keysOf {α : Type} {l : List (Nat × α)} {i : Nat} : memb (keysOf l) i = true ↔ look l i ≠ none := by
 induction l with
 | nil => simp [keysOf, memb, look]
 | cons x r ih =>
  obtain ⟨k, y⟩ := x
  simp only [keysOf, memb, look]
  cases Nat.beq k i <;> simp [ih]
theorem distinct_cons {k : Nat} {r : List Nat} (h : distinct (k :: r) = true) : memb r k = false ∧ distinct r = true := by
 simp only [distinct] at h
 split at h
 ·cases h
 ·exact ⟨by assumption, h⟩
theorem look_putAll {l : List (Nat × Blk)} : ∀ {H : List (Nat × Blk)} {i : Nat}, distinct (keysOf l) = true → look (putAll H l) i = match look l i with | some b => some b | none => look H i := by
 induction l with
 | nil => intro H i _; simp [putAll, look]
 | cons x r ih =>
  obtain ⟨k, y⟩ := x
  intro H i hd
  obtain ⟨h1, h2⟩ := distinct_cons hd
  simp only [putAll, look]
  rw [ih h2]
  cases hb : Nat.beq k i with
  | true =>
   obtain rfl := beq_iff.1 hb
   have : look r k = none := by
    cases hl : look r k with
    | none => rfl
    | some b => have := (memb_keysOf (l := r) (i := k)).2 (by rw [hl]; simp); rw [h1] at this; cases this
   simp [this, look_put]
  | false =>
   have hne : k ≠ i := fun e => by subst e; simp [Nat.beq_refl] at hb
   cases look r i <;> simp [look_put, hne]
theorem memb_minus {l q : List Nat} {i : Nat} : memb (minus l q) i = true ↔ memb l i = true ∧ memb q i = false := by
 induction l with
 | nil => simp [minus, memb]
 | cons k r ih =>
  simp only [minus]
  cases hm : memb q k with
  | true =>
   simp only [ih, memb]
   cases hb : Nat.beq k i with
   | true =>
    obtain rfl := beq_iff.1 hb
    simp [hm]
   | false => simp
  | false =>
   simp only [memb]
   cases hb : Nat.beq k i with
   | true =>
    obtain rfl := beq_iff.1 hb
    simp [hm]
   | false => simp [ih]
theorem mapAll_inj {m : Nat → Option Nat} : ∀ {ks ls : List Nat}, mapAll m ks = some ls → distinct ls = true → (∀ k, memb ks k = true → ∃ x, m k = some x ∧ memb ls x = true) ∧ ∀ i j x, memb ks i = true → memb ks j = true → m i = some x → m j = some x → i = j
 | [], ls, h, hd => ⟨fun k hk => by simp [memb] at hk, fun i j x hi => by simp [memb] at hi⟩
 | k :: r, ls, h, hd => by
  simp only [mapAll] at h
  split at h
  ·rename_i y l hy hl
   cases h
   obtain ⟨h1, h2⟩ := distinct_cons hd
   obtain ⟨h3, h4⟩ := mapAll_inj hl h2
   refine ⟨fun i hi => ?_, fun i j x hi hj mi mj => ?_⟩
   ·simp only [memb] at hi
    split at hi
    ·rename_i hb; obtain rfl := beq_iff.1 hb; exact ⟨y, hy, by simp [memb, Nat.beq_refl]⟩
    ·obtain ⟨x, h5, h6⟩ := h3 i hi; exact ⟨x, h5, by simp only [memb]; split <;> first | rfl | exact h6⟩
   ·simp only [memb] at hi hj
    split at hi
    ·rename_i hbi
     obtain rfl := beq_iff.1 hbi
     split at hj
     ·rename_i hbj; exact beq_iff.1 hbj
     ·obtain ⟨x', h5, h6⟩ := h3 j hj
      rw [hy] at mi; rw [h5] at mj; cases mi; cases mj
      rw [h1] at h6; cases h6
    ·split at hj
     ·rename_i hbj
      obtain rfl := beq_iff.1 hbj
      obtain ⟨x', h5, h6⟩ := h3 i hi
      rw [hy] at mj; rw [h5] at mi; cases mi; cases mj
      rw [h1] at h6; cases h6
     ·exact h4 i j x hi hj mi mj
  ·cases h
theorem renHp_look {m : Nat → Option Nat} : ∀ {X H : List (Nat × Blk)}, renHp m X = some H → (∀ i j k, m i = some k → m j = some k → look X i ≠ none → look X j ≠ none → i = j) →
  (∀ k b', look H k = some b' → ∃ i b, look X i = some b ∧ m i = some k ∧ renBlk m b = some b') ∧ ∀ i b k, look X i = some b → m i = some k → ∃ b', look H k = some b' ∧ renBlk m b = some b'
 | [], H, h, _ => by simp [renHp] at h; subst h; exact ⟨fun k b' h => by simp [look] at h, fun i b k h => by simp [look] at h⟩
 | (i0, b0) :: r, H, h, hinj => by
  have hx : ∀ j, look ((i0, b0) :: r) j = if i0 = j then some b0 else look r j := fun j => by
   simp only [look]
   by_cases e : i0 = j
   ·simp [e, Nat.beq_refl]
   ·simp [e, beq_false e]
  have hne : ∀ j, look r j ≠ none → look ((i0, b0) :: r) j ≠ none := fun j hj => by rw [hx]; by_cases e : i0 = j <;> simp [e] <;> exact hj
  have hinj' : ∀ i j k, m i = some k → m j = some k → look r i ≠ none → look r j ≠ none → i = j := fun i j k h1 h2 h3 h4 => hinj i j k h1 h2 (hne i h3) (hne j h4)
  simp only [renHp] at h
  split at h
  ·rename_i k0 hk0
   split at h
   ·rename_i b0' r' hb hr
    cases h
    obtain ⟨f1, f2⟩ := renHp_look hr hinj'
    refine ⟨fun k b' hk => ?_, fun i b k hi hm => ?_⟩
    ·rw [look_put] at hk
     split at hk
     ·rename_i e; subst e; cases hk; exact ⟨i0, b0, by rw [hx]; simp, hk0, hb⟩
     ·rename_i e
      obtain ⟨i, b, g1, g2, g3⟩ := f1 k b' hk
      refine ⟨i, b, ?_, g2, g3⟩
      rw [hx, if_neg fun e' => ?_]
      ·exact g1
      ·subst e'; rw [hk0] at g2; cases g2; exact e rfl
    ·rw [hx] at hi
     split at hi
     ·rename_i e; subst e; cases hi; rw [hk0] at hm; cases hm; exact ⟨b0', by rw [look_put]; simp, hb⟩
     ·rename_i e
      obtain ⟨b', g1, g2⟩ := f2 i b k hi hm
      refine ⟨b', ?_, g2⟩
      rw [look_put, if_neg fun e' => ?_]
      ·exact g1
      ·subst e'; exact e (hinj i0 i k0 hk0 hm (by rw [hx]; simp) (hne i (by rw [hi]; simp)))
   ·cases h
  ·rename_i hk0
   obtain ⟨f1, f2⟩ := renHp_look h hinj'
   refine ⟨fun k b' hk => ?_, fun i b k hi hm => ?_⟩
   ·obtain ⟨i, b, g1, g2, g3⟩ := f1 k b' hk
    refine ⟨i, b, ?_, g2, g3⟩
    rw [hx, if_neg fun e' => ?_]
    ·exact g1
    ·subst e'; rw [hk0] at g2; cases g2
   ·rw [hx] at hi
    split at hi
    ·rename_i e; subst e; rw [hk0] at hm; cases hm
    ·exact f2 i b k hi hm
def Does (P : Program) (g : FuncId) (vs : Array Value) (w : World) (R : Value → World → Prop) : Prop :=
 match (callFunc g vs).run P w with
 | .ok (.value v) w' => R v w'
 | .ok (.enter f args) w' => Calls P f args w' fun | .returned v, w'' => R v w'' | _, _ => False
 | .ok (.row row args) w' => Rows P row args w' R
 | _ => False
theorem Does.mono {P : Program} {g : FuncId} {vs : Array Value} {w : World} {R R' : Value → World → Prop} (h : Does P g vs w R) (hr : ∀ v w', R v w' → R' v w') : Does P g vs w R' := by
 unfold Does at *
 split at h
 ·exact hr _ _ h
 ·refine Calls.mono h fun e w'' he => ?_
  cases e <;> first | exact hr _ _ he | exact he
 ·exact Rows.mono h hr
 ·exact h.elim
def Fun (C : Ctx) (P : Program) (g : FuncId) (args : List AV) (H : List (Nat × Blk)) (r : AV) (H' : List (Nat × Blk)) : Prop :=
 ∀ (ρ : Ren) (A : Nat → Prop) (w : World) (vs : List Value), vs.length = args.length → (∀ i x v, nth? args i = some x → nth? vs i = some v → RV w A ρ x v) → HeapRel w A ρ H →
  (∀ b, A b → b < w.heap.size) → (∀ id l, ρ id = some l → l.b < w.heap.size ∧ look H id ≠ none) → (∀ g x, C.gl g = some x → RV w A ρ (.pd x) (.pointer (some ⟨g, 0, none⟩))) →
  Does P g vs.toArray w fun v w' => ∃ ρ' A', RT w' A' ρ' r v ∧ HeapRel w' A' ρ' H' ∧ (∀ id l, ρ id = some l → ρ' id = some l) ∧ (∀ b, A' b → b < w'.heap.size) ∧
   (∀ id l, ρ' id = some l → l.b < w'.heap.size) ∧ Evo w A (own ρ H) w' A' (own ρ' H')
section
variable {C : Ctx} {P : Program} {N : Nat} {D : Dom} {S : St} {ρ : Ren} {A : Nat → Prop} {a : Act} {w : World}
theorem back_done (h : Rel C N D S ρ A a w) {L : List Nat} {H' : List (Nat × Blk)} {r : AV} {v : Value} {ρ' : Ren} {A1 A' Oc : Nat → Prop} {w' : World} {e : Eff} {mb : Nat → Option Nat}
  (hA1 : ∀ b, A b → A1 b) (hA2 : ∀ b, A1 b → A b ∨ ∃ id l, memb L id = true ∧ look S.hp id ≠ none ∧ ρ id = some l ∧ l.b = b)
  (hO : ∀ b, Oc b → ∃ id l, memb L id = true ∧ look S.hp id ≠ none ∧ ρ id = some l ∧ l.b = b) (hOA : ∀ b, A b → ¬ Oc b)
  (evo : Evo w A1 Oc w' A' (own ρ' H')) (hr : RT w' A' ρ' r v) (hh : HeapRel w' A' ρ' H') (hAb : ∀ b, A' b → b < w'.heap.size) (hrb : ∀ id l, ρ' id = some l → l.b < w'.heap.size)
  (m1 : ren mb 40 r = some e.v) (m2 : renHp mb H' = some e.wr) (m3 : ∀ i j x, memb (keysOf H') i = true → memb (keysOf H') j = true → mb i = some x → mb j = some x → i = j)
  (m4 : ∀ k x, mb k = some x → memb (keysOf H') k = true) (m5 : ∀ k x, mb k = some x → memb S.seen x = false ∨ (memb L x = true ∧ ∀ l, ρ x = some l → ρ' k = some l))
  (m6 : distinct (keysOf e.wr) = true) (d1 : ∀ id, memb L id = true → look e.wr id = none → memb e.dead id = true) (_d2 : ∀ id, memb e.dead id = true → look e.wr id = none ∧ memb L id = true) :
  Done S ρ A w e (.ok (.value v) w') := by
 obtain ⟨f1, f2⟩ := renHp_look m2 fun i j k h1 h2 h3 h4 => m3 i j k (memb_keysOf.2 h3) (memb_keysOf.2 h4) h1 h2
 have fresh : ∀ x, memb S.seen x = false → ρ x = none := fun x hx => by
  cases hp : ρ x with
  | none => rfl
  | some l => have := (h.rb x l hp).2; rw [hx] at this; cases this
 obtain ⟨ρn, hρn⟩ : ∃ ρn : Ren, ∀ id, ρn id = match ρ id with | some l => some l | none => (match (keysOf H').find? (fun k => mb k == some id) with | some k => ρ' k | none => none) := ⟨_, fun _ => rfl⟩
 have old : ∀ id l, ρ id = some l → ρn id = some l := fun id l hl => by rw [hρn, hl]
 have keyMem : ∀ k, k ∈ keysOf H' ↔ memb (keysOf H') k = true := fun k => memb_iff.symm
 have found : ∀ k x, mb k = some x → (keysOf H').find? (fun k => mb k == some x) = some k := fun k x hk => by
  have hk' := m4 k x hk
  cases hf : (keysOf H').find? (fun k => mb k == some x) with
  | none =>
   have := List.find?_eq_none.1 hf k ((keyMem k).2 hk')
   simp [hk] at this
  | some k2 =>
   have h1 := List.find?_some hf
   have h2 := List.mem_of_find?_eq_some hf
   simp at h1
   rw [m3 k2 k x ((keyMem k2).1 h2) hk' h1 hk]
 have new : ∀ k x l, mb k = some x → ρ' k = some l → ρn x = some l := fun k x l hk hl => by
  rw [hρn]
  cases hx : ρ x with
  | some l0 =>
   rcases m5 k x hk with h1 | ⟨_, h1⟩
   ·rw [fresh x h1] at hx; cases hx
   ·have := h1 l0 hx; rw [hl] at this; exact this.symm
  | none => simp only [found k x hk, hl]
 have newN : ∀ k x, mb k = some x → ρ' k = none → ρn x = none := fun k x hk hl => by
  rw [hρn]
  cases hx : ρ x with
  | some l0 =>
   rcases m5 k x hk with h1 | ⟨_, h1⟩
   ·rw [fresh x h1] at hx; cases hx
   ·have := h1 l0 hx; rw [hl] at this; cases this
  | none => simp only [found k x hk, hl]
 have hlook : ∀ id, look (hpAfter S.hp e) id = if memb e.dead id = true then none else match look e.wr id with | some b => some b | none => look S.hp id := fun id => by
  simp only [hpAfter, look_dropAll, look_putAll m6]
 -- of a block that is there behind the call
 have cases2 : ∀ id k, look (hpAfter S.hp e) id = some k → (look e.wr id = some k) ∨ (look S.hp id = some k ∧ memb L id = false) := fun id k hk => by
  rw [hlook] at hk
  split at hk
  ·cases hk
  ·rename_i hd
   cases hw : look e.wr id with
   | some b => rw [hw] at hk; exact .inl hk
   | none =>
    rw [hw] at hk
    refine .inr ⟨hk, ?_⟩
    cases hL : memb L id with
    | false => rfl
    | true => exact absurd (d1 id hL hw) hd
 have casesN : ∀ id, look (hpAfter S.hp e) id ≠ none → (look e.wr id ≠ none) ∨ (look S.hp id ≠ none ∧ memb L id = false) := fun id hn => by
  cases hk : look (hpAfter S.hp e) id with
  | none => exact absurd hk hn
  | some k =>
   rcases cases2 id k hk with h1 | ⟨h1, h2⟩
   ·exact .inl (by rw [h1]; simp)
   ·exact .inr ⟨by rw [h1]; simp, h2⟩
 have ofNew : ∀ x, look e.wr x ≠ none → ∃ k b, look H' k = some b ∧ mb k = some x := fun x hx => by
  cases hk : look e.wr x with
  | none => exact absurd hk hx
  | some b' => obtain ⟨k, b, g1, g2, _⟩ := f1 x b' hk; exact ⟨k, b, g1, g2⟩
 have notOc : ∀ id l, look S.hp id ≠ none → memb L id = false → ρ id = some l → ¬ Oc l.b := fun id l h1 h2 h3 hoc => by
  obtain ⟨id2, l2, g1, g2, g3, g4⟩ := hO _ hoc
  have := h.hp.inj id id2 l l2 h1 g2 h3 g3 g4.symm
  subst this; rw [h2] at g1; cases g1
 have newBlk : ∀ k l, look H' k ≠ none → ρ' k = some l → (∃ id l2, memb L id = true ∧ look S.hp id ≠ none ∧ ρ id = some l2 ∧ l2.b = l.b) ∨ w.heap.size ≤ l.b := fun k l h1 h2 => by
  rcases evo.Onew l.b ⟨k, l, h1, h2, rfl⟩ with g | g
  ·exact .inl (hO _ g)
  ·exact .inr g
 have kp : Keeps w A ρ w' A' ρn := ⟨fun b hb => ⟨evo.stay b (hA1 b hb), evo.keep b (h.Ab b hb) (hOA b hb)⟩, old, evo.cells⟩
 have ownNew : ∀ x l, look e.wr x ≠ none → ρn x = some l → ∃ k, look H' k ≠ none ∧ ρ' k = some l := fun x l h1 h2 => by
  obtain ⟨k, b, g1, g2⟩ := ofNew x h1
  cases hk : ρ' k with
  | none => rw [newN k x g2 hk] at h2; cases h2
  | some l2 => rw [new k x l2 g2 hk] at h2; cases h2; exact ⟨k, by rw [g1]; simp, hk⟩
 have ownOld : ∀ id l, look S.hp id ≠ none → memb L id = false → ρn id = some l → ρ id = some l := fun id l h1 h0 h2 => by
  cases hp : ρ id with
  | some l0 => rw [old id l0 hp] at h2; exact h2
  | none =>
   rw [hρn, hp] at h2
   dsimp only at h2
   split at h2
   ·rename_i k hf
    have g1 := List.find?_some hf
    simp at g1
    rcases m5 k id g1 with g2 | ⟨g2, _⟩
    ·have := h.sn id h1; rw [g2] at this; cases this
    ·rw [h0] at g2; cases g2
   ·cases h2
 have seenW : ∀ x, look e.wr x ≠ none → memb (addSeen S.seen e.wr) x = true := fun x hx => by
  refine memb_addSeen.2 (.inr ?_)
  have key : ∀ (q : List (Nat × Blk)), look q x ≠ none → ∃ b, (x, b) ∈ q := by
   intro q
   induction q with
   | nil => intro h; exact absurd rfl h
   | cons y r ih =>
    obtain ⟨k, b⟩ := y
    intro h
    simp only [look] at h
    split at h
    ·rename_i hb; obtain rfl := beq_iff.1 hb; exact ⟨b, List.mem_cons_self⟩
    ·obtain ⟨b', hb'⟩ := ih h; exact ⟨b', List.mem_cons_of_mem _ hb'⟩
  exact key _ hx
 refine ⟨.value v, v, ρn, A', w', rfl, .inl rfl, hr.ren m1 new, ⟨fun id k hk => ?_, fun id id' l l' h1 h2 h3 h4 hb => ?_, fun id l h1 h2 => ?_⟩, old, fun id l hl => ?_, hAb, fun id hid => ?_, ?_⟩
 ·rcases cases2 id k hk with hw | ⟨hold, hnL⟩
  ·obtain ⟨k0, b0, g1, g2, g3⟩ := f1 id k hw
   rcases hh.blk k0 b0 g1 with ⟨l, q1, q2, q3⟩ | ⟨q1, e0, f0, q2⟩
   ·refine .inl ⟨l, new k0 id l g2 q1, ?_⟩
    cases b0 with
    | m => exact q2.elim
    | c t =>
     simp only [renBlk] at g3
     split at g3
     ·rename_i t' ht
      cases g3
      obtain ⟨cs, el, fz, vs, rest, e1, e2, e3, e4, e5⟩ := q2
      exact ⟨⟨cs, el, fz, vs, rest, e1, e2.imp_right fun q => ⟨q.1, ren_row1 ht q.2⟩, e3, e4.ren ht new, e5⟩, fun t'' htt => by cases htt; exact (q3 t rfl).trans (ren_shape _ ht)⟩
     ·cases g3
   ·subst q2
    simp only [renBlk, ren] at g3
    cases g3
    exact .inr ⟨newN k0 id g2 q1, _, _, rfl⟩
  ·rcases h.hp.blk id k hold with ⟨l, q1, q2, q3⟩ | ⟨q1, q2⟩
   ·refine .inl ⟨l, old id l q1, ?_, q3⟩
    cases k with
    | m => exact q2.elim
    | c t =>
     obtain ⟨cs, el, fz, vs, rest, e1, e2, e3, e4, e5⟩ := q2
     exact ⟨cs, el, fz, vs, rest, by rw [evo.keep l.b (h.rb id l q1).1 (notOc id l (by rw [hold]; simp) hnL q1)]; exact e1, e2, e3, e4.keep kp, e5⟩
   ·refine .inr ⟨?_, q2⟩
    cases hx : ρn id with
    | none => rfl
    | some l => have := ownOld id l (by rw [hold]; simp) hnL hx; rw [q1] at this; cases this
 ·have mixed : ∀ {x y : Nat} {lx ly : Loc}, look e.wr x ≠ none → ρn x = some lx → look S.hp y ≠ none → memb L y = false → ρn y = some ly → lx.b = ly.b → False := by
   intro x y lx ly g1 g2 g3 g4 g5 g6
   obtain ⟨k, k1, k2⟩ := ownNew x lx g1 g2
   have hy := ownOld y ly g3 g4 g5
   rcases newBlk k lx k1 k2 with ⟨z, lz, z1, z2, z3, z4⟩ | z
   ·have := h.hp.inj y z ly lz g3 z2 hy z3 (by rw [z4, g6])
    subst this; rw [g4] at z1; cases z1
   ·have := (h.rb y ly hy).1; omega
  rcases casesN id h1 with n1 | ⟨n1, n2⟩ <;> rcases casesN id' h2 with n3 | ⟨n3, n4⟩
  ·obtain ⟨k, b, g1, g2⟩ := ofNew id n1
   obtain ⟨k', b', g3, g4⟩ := ofNew id' n3
   have hk : ρ' k = some l := by
    cases hk : ρ' k with
    | none => rw [newN k id g2 hk] at h3; cases h3
    | some l2 => rw [new k id l2 g2 hk] at h3; cases h3; rfl
   have hk' : ρ' k' = some l' := by
    cases hk : ρ' k' with
    | none => rw [newN k' id' g4 hk] at h4; cases h4
    | some l2 => rw [new k' id' l2 g4 hk] at h4; cases h4; rfl
   have := hh.inj k k' l l' (by rw [g1]; simp) (by rw [g3]; simp) hk hk' hb
   subst this; rw [g2] at g4; cases g4; rfl
  ·exact (mixed n1 h3 n3 n4 h4 hb).elim
  ·exact (mixed n3 h4 n1 n2 h3 hb.symm).elim
  ·exact h.hp.inj id id' l l' n1 n3 (ownOld id l n1 n2 h3) (ownOld id' l' n3 n4 h4) hb
 ·rcases casesN id h1 with n1 | ⟨n1, n2⟩
  ·obtain ⟨k, k1, k2⟩ := ownNew id l n1 h2
   exact hh.apart k l k1 k2
  ·have h3 := ownOld id l n1 n2 h2
   intro hA
   rcases evo.Anew _ hA with g | g | g
   ·rcases hA2 _ g with g | ⟨z, lz, z1, z2, z3, z4⟩
    ·exact h.hp.apart id l n1 h3 g
    ·have := h.hp.inj id z l lz n1 z2 h3 z3 z4.symm
     subst this; rw [n2] at z1; cases z1
   ·exact notOc id l n1 n2 h3 g
   ·have := (h.rb id l h3).1; omega
 ·rw [hρn] at hl
  split at hl
  ·rename_i l0 hp
   cases hl
   obtain ⟨g1, g2⟩ := h.rb id l hp
   exact ⟨Nat.lt_of_lt_of_le g1 evo.size, memb_addSeen.2 (.inl g2)⟩
  ·split at hl
   ·rename_i k hf
    have g1 := List.find?_some hf
    simp at g1
    refine ⟨hrb k l hl, ?_⟩
    have hk := m4 k id g1
    have hlk := memb_keysOf.1 hk
    cases hb : look H' k with
    | none => exact absurd hb hlk
    | some b =>
     obtain ⟨b', q1, _⟩ := f2 k b id hb g1
     exact seenW id (by rw [q1]; simp)
   ·cases hl
 ·rcases casesN id hid with n1 | ⟨n1, _⟩
  ·exact seenW id n1
  ·exact memb_addSeen.2 (.inl (h.sn id n1))
 ·refine ⟨evo.size, evo.os, evo.tape, evo.output, fun b hb hn => evo.keep b hb fun hoc => ?_, evo.cells, fun b hb => evo.stay b (hA1 b hb), fun b hb => ?_, fun b hb => ?_⟩
  ·obtain ⟨id, l, g1, g2, g3, g4⟩ := hO b hoc; exact hn ⟨id, l, g2, g3, g4⟩
  ·rcases evo.Anew b hb with g | g | g
   ·rcases hA2 b g with g | ⟨id, l, g1, g2, g3, g4⟩
    ·exact .inl g
    ·exact .inr (.inl ⟨id, l, g2, g3, g4⟩)
   ·obtain ⟨id, l, g1, g2, g3, g4⟩ := hO b g; exact .inr (.inl ⟨id, l, g2, g3, g4⟩)
   ·exact .inr (.inr g)
  ·obtain ⟨id, l, g1, g2, rfl⟩ := hb
   rcases casesN id g1 with n1 | ⟨n1, n2⟩
   ·obtain ⟨k, k1, k2⟩ := ownNew id l n1 g2
    rcases newBlk k l k1 k2 with ⟨z, lz, z1, z2, z3, z4⟩ | z
    ·exact .inl ⟨z, lz, z2, z3, z4⟩
    ·exact .inr z
   ·exact .inl ⟨id, l, n1, ownOld id l n1 n2 g2, rfl⟩
end
end Go.Bu
namespace Go.Bu
abbrev FR (r : Option Nat) : Fence := { Fence.wide with round := r }
theorem callsIn_FR {r : Option Nat} {n : Nat} {P : Program} {f : FuncId} {args : Array Value} {w : World} {R : Ending → World → Prop} (h : Calls P f args w R) : CallsIn (FR r) n P f args w R := (callsIn_wide (n := n)).2 h
theorem rowsIn_FR {r : Option Nat} {n : Nat} {P : Program} {row : String} {args : Array Value} {w : World} {R : Value → World → Prop} (h : Rows P row args w R) : RowsIn (FR r) n P row args w R :=
 fun c cs _ => let ⟨v, w', r, s⟩ := h c cs; ⟨v, w', r, stepsIn_wide.2 s⟩
theorem FR_depth {r : Option Nat} {n : Nat} : (FR r).depth.isSome = true → 1 ≤ n := fun h => by cases h
def DoesY (P : Program) (l : Nat) (vs : Array Value) (w : World) (R : Value → World → Prop) : Prop :=
 ∃ fn tmps assign body, (Instr.yield l vs).run P w = .ok (.round l fn tmps assign body) w ∧ RoundIn (FR none) 0 P l fn tmps assign body w fun | .returned v, w' => R v w' | _, _ => False
def YFun (C : Ctx) (P : Program) (D : Dom) (L : List Nat) (l : Nat) (args : List AV) (H : List (Nat × Blk)) (r : AV) (H' : List (Nat × Blk)) : Prop :=
 ∀ (ρ : Ren) (A : Nat → Prop) (w : World) (vs : List Value), vs.length = args.length → (∀ i x v, nth? args i = some x → nth? vs i = some v → RV w A ρ x v) → HeapRel w A ρ H →
  (∀ b, A b → b < w.heap.size) → (∀ id l, ρ id = some l → l.b < w.heap.size ∧ look H id ≠ none) → (∀ g x, C.gl g = some x → RV w A ρ (.pd x) (.pointer (some ⟨g, 0, none⟩))) →
  (∃ ρ0 : Ren, D.ext ρ0 A w ∧ ∀ k id x, look H k ≠ none → nth? L k = some id → ρ0 id = some x → ρ k = some x) → (∀ i q, D.rc = some (i, q) → ¬ A i ∧ w.heap[i]? = some (.loop q)) →
  DoesY P l vs.toArray w fun v w' => ∃ ρ' A', RT w' A' ρ' r v ∧ HeapRel w' A' ρ' H' ∧ (∀ id l, look H' id ≠ none → ρ id = some l → ρ' id = some l) ∧ (∀ b, A' b → b < w'.heap.size) ∧
   (∀ id l, ρ' id = some l → l.b < w'.heap.size) ∧ Evo w A (own ρ H) w' A' (own ρ' H')
inductive Acts (C : Ctx) (P : Program) (D : Dom) (W : Way) (o : Oper) (S : St) : Eff → Prop
  | plain {e} : opEff C S (slot o.dst) (memb W.inpl (slot o.dst)) o.op = some e → AllP e.ob → Acts C P D W o S e
  | lent {c f g caps xs L H0 args' r H' e} : o.op = .call c → c.callee = .value f → S.val C f = some (.fn (.func g) caps) → valL C S c.args.toList = some xs → noTups (xs ++ caps) = true →
      (∀ id, look H0 id = if memb L id = true then look S.hp id else none) → lend.lends H0 40 (xs ++ caps) = some args' → Fun C P g args' [] r H' → backEff S [] (slot o.dst) r H' = some e → Acts C P D W o S { e with dead := minus L (keysOf e.wr), rd := L }
  | free {c f g caps xs L H0 args' r r1 H'} : o.op = .call c → c.callee = .value f → S.val C f = some (.fn (.func g) caps) → valL C S c.args.toList = some xs → noTups (xs ++ caps) = true →
      (∀ id, look H0 id = if memb L id = true then look S.hp id else none) → lend.lends H0 40 (xs ++ caps) = some args' → Fun C P g args' [] r H' → ren (fun _ => none) 40 r = some r1 → noMem r → Acts C P D W o S { v := r, rd := L }
  | ref {c f g caps xs L H0 args' H r H' e} : o.op = .call c → c.callee = .value f → S.val C f = some (.fn (.func g) caps) → valL C S c.args.toList = some xs → noTups (xs ++ caps) = true →
      (∀ id, look H0 id = if memb L id = true then look S.hp id else none) → ren.rens (liveIn H0 L) 40 (xs ++ caps) = some args' → renHp (liveIn H0 L) H0 = some H → allLive S.hp L = true → distinct L = true →
      Fun C P g args' H r H' → backEff S L (slot o.dst) r H' = some e → Acts C P D W o S e
  | yld {c f l fs cs xs L H0 args' H r H' e} : o.op = .call c → c.callee = .value f → S.val C f = some (.v (.func (.yield l) fs cs)) → fs.toList = [] → valL C S c.args.toList = some xs → noTups xs = true →
      (∀ id, look H0 id = if memb L id = true then look S.hp id else none) → ren.rens (liveIn H0 L) 40 xs = some args' → renHp (liveIn H0 L) H0 = some H → allLive S.hp L = true → distinct L = true →
      YFun C P D L l args' H r H' → backEff S L (slot o.dst) r H' = some e → Acts C P D W o S e
section
variable {C : Ctx} {P : Program} {N : Nat} {D : Dom} {S : St} {ρ : Ren} {A : Nat → Prop} {a : Act} {w : World}
theorem noTups_mem : ∀ {l : List AV}, noTups l = true → ∀ i x, nth? l i = some x → noTup x = true
 | [], _, i, x, hx => by cases i <;> cases hx
 | y :: r, h, i, x, hx => by
  simp only [noTups] at h
  split at h
  ·cases i with
   | zero => cases hx; assumption
   | succ i => exact noTups_mem h i x hx
  ·cases h
theorem nth?_append {α : Type} : ∀ (l r : List α) (i : Nat), nth? (l ++ r) i = if i < l.length then nth? l i else nth? r (i - l.length)
 | [], r, i => by simp
 | x :: l, r, 0 => by simp [nth?]
 | x :: l, r, i + 1 => by
  simp only [List.cons_append, nth?, nth?_append l r i, List.length_cons]
  by_cases h : i < l.length
  ·simp [h]
  ·simp [h]
theorem call_args (h : Rel C N D S ρ A a w) {c : Call} {f : Operand} {g : FuncId} {caps xs : List AV} (hc : c.callee = .value f) (hf : S.val C f = some (.fn (.func g) caps)) (hx : valL C S c.args.toList = some xs) (hn : noTups (xs ++ caps) = true) :
  ∃ vs cap, (∀ ty, (resolve a.eval c ty).run P w = .ok { target := .fn (.func g) cap, args := c.args.map a.eval } w) ∧ vs.toArray = c.args.map a.eval ++ cap ∧ vs.length = (xs ++ caps).length ∧
   ∀ i x v, nth? (xs ++ caps) i = some x → nth? vs i = some v → RV w A ρ x v := by
 have hfv := (h.val hf).leaf rfl
 generalize hu : a.eval f = u at hfv
 cases hfv with
 | fn us hl hlf hr =>
  obtain ⟨h1, h2⟩ := h.vals hx
  refine ⟨c.args.toList.map a.eval ++ us, us.toArray, fun ty => by simp [resolve, hc, hu, Deferred.ofValue], by apply Array.ext'; simp, by simp [h1, hl], fun i x v hi hv => ?_⟩
  rw [nth?_append] at hi hv
  simp only [List.length_map, h1] at hi hv
  split at hi
  ·rename_i hlt
   rw [if_pos hlt] at hv
   exact (h2 i x v hi hv).rv fun l e => notTup (noTups_mem hn i x (by rw [nth?_append, h1, if_pos hlt]; exact hi)) l e
  ·rename_i hlt
   rw [if_neg hlt] at hv
   exact .inl ⟨hlf _ x hi, hr _ x v hi hv⟩
theorem HeapRel.part {H H0 : List (Nat × Blk)} {L : List Nat} (h : HeapRel w A ρ H) (h0 : ∀ id, look H0 id = if memb L id = true then look H id else none) : HeapRel w A ρ H0 := by
 have hs : ∀ id, look H0 id ≠ none → look H id ≠ none := fun id hn => by rw [h0] at hn; split at hn <;> first | exact hn | exact absurd rfl hn
 refine ⟨fun id k hk => h.blk id k ?_, fun id id' l l' h1 h2 => h.inj id id' l l' (hs id h1) (hs id' h2), fun id l h1 => h.apart id l (hs id h1)⟩
 rw [h0] at hk
 split at hk
 ·exact hk
 ·cases hk
theorem own_part {H0 : List (Nat × Blk)} {L : List Nat} (h0 : ∀ id, look H0 id = if memb L id = true then look S.hp id else none) {b : Nat} (h : own ρ H0 b) : ∃ id l, memb L id = true ∧ look S.hp id ≠ none ∧ ρ id = some l ∧ l.b = b := by
 obtain ⟨id, l, h1, h2, h3⟩ := h
 rw [h0] at h1
 split at h1
 ·exact ⟨id, l, by assumption, h1, h2, h3⟩
 ·exact absurd rfl h1
theorem does_lent (h : Rel C N D S ρ A a w) {g : FuncId} {xs args' : List AV} {L : List Nat} {H0 : List (Nat × Blk)} {vs : List Value} {r : AV} {H' : List (Nat × Blk)} (hl : vs.length = xs.length) (hv : ∀ i x v, nth? xs i = some x → nth? vs i = some v → RV w A ρ x v)
  (h0 : ∀ id, look H0 id = if memb L id = true then look S.hp id else none) (hle : lend.lends H0 40 xs = some args') (hF : Fun C P g args' [] r H') :
  Does P g vs.toArray w fun v w' => ∃ ρ' A', RT w' A' ρ' r v ∧ HeapRel w' A' ρ' H' ∧ (∀ b, A' b → b < w'.heap.size) ∧ (∀ id l, ρ' id = some l → l.b < w'.heap.size) ∧
   Evo w (fun b => A b ∨ own ρ H0 b) (fun _ => False) w' A' (own ρ' H') := by
 have hH0 := h.hp.part h0
 obtain ⟨q1, q2⟩ := lends_get 40 hle
 refine Does.mono (hF (fun _ => none) (fun b => A b ∨ own ρ H0 b) w vs (by rw [hl, q1]) (fun i x v hi hvi => ?_) ⟨fun id k hk => by simp [look] at hk, fun id id' l l' h1 => by simp [look] at h1, fun id l h1 => by simp [look] at h1⟩ (fun b hb => ?_) (fun id l hl => by cases hl) fun g x hg => ?_) fun v w' hR => ?_
 ·obtain ⟨z, hz⟩ := nth?_some (l := xs) (i := i) (by have := nth?_lt hi; rw [q1] at this; exact this)
  obtain ⟨k, y, h3, h4, h5⟩ := q2 i z hz
  rw [hi] at h4; cases h4
  exact lend_rv hH0 h5 (hv i z v hz hvi) _
 ·rcases hb with hb | ⟨id, l, _, h2, rfl⟩
  ·exact h.Ab b hb
  ·exact (h.rb id l h2).1
 ·have := h.gl g x hg
  rcases this with ⟨hlf, hr⟩ | ⟨hlf, _⟩
  ·exact .inl ⟨rfl, (hr.noid rfl _).more fun _ h => .inl h⟩
  ·cases hlf
 ·obtain ⟨ρ', A', r1, r2, r3, r4, r5, r6⟩ := hR
  have : own (fun _ => none) [] = fun _ => False := by funext b; simp [own, look]
  rw [this] at r6
  exact ⟨ρ', A', r1, r2, r4, r5, r6⟩
theorem idxOf_nth {id : Nat} : ∀ {L : List Nat} {i k : Nat}, idxOf L id i = some k → i ≤ k ∧ nth? L (k - i) = some id
 | [], i, k, h => by simp [idxOf] at h
 | x :: r, i, k, h => by
  simp only [idxOf] at h
  split at h
  ·rename_i hb; cases h; exact ⟨Nat.le_refl _, by simp [nth?, beq_iff.1 hb]⟩
  ·obtain ⟨h1, h2⟩ := idxOf_nth h
   refine ⟨by omega, ?_⟩
   rw [show k - i = (k - (i + 1)) + 1 by omega]
   exact h2
theorem nth?_memb {L : List Nat} {i id : Nat} (h : nth? L i = some id) : memb L id = true := by
 rw [memb_iff]
 rw [nth?_get] at h
 exact List.mem_of_getElem? h
theorem nth_idxOf {id : Nat} : ∀ {L : List Nat} {i k : Nat}, distinct L = true → nth? L k = some id → idxOf L id i = some (k + i)
 | [], i, k, _, h => by cases k <;> cases h
 | x :: r, i, k, hd, h => by
  obtain ⟨h1, h2⟩ := distinct_cons hd
  simp only [idxOf]
  cases k with
  | zero => cases h; simp [Nat.beq_refl]
  | succ k =>
   have hne : x ≠ id := fun e => by
    subst e
    have := nth?_memb (L := r) (i := k) h
    rw [h1] at this; cases this
   have := nth_idxOf (i := i + 1) h2 (k := k) h
   rw [beq_false hne]
   show idxOf r id (i + 1) = _
   rw [this, show k + (i + 1) = k + 1 + i by omega]
theorem backId_spec {L seen ks : List Nat} {d k x : Nat} (h : backId L seen ks d k = some x) : memb ks k = true ∧ (nth? L k = some x ∨ (nth? L k = none ∧ memb seen x = false)) := by
 unfold backId at h
 split at h
 ·cases h
 ·rename_i hk
  refine ⟨hk, ?_⟩
  split at h
  ·rename_i id hL; cases h; exact .inl hL
  ·rename_i hL; exact .inr ⟨hL, newId_fresh h⟩
theorem allLive_mem {H : List (Nat × Blk)} : ∀ {L : List Nat}, allLive H L = true → ∀ i id, nth? L i = some id → look H id ≠ none
 | [], _, i, id, h => by cases i <;> cases h
 | k :: r, hl, i, id, h => by
  simp only [allLive] at hl
  split at hl
  ·rename_i b hb
   cases i with
   | zero => cases h; rw [hb]; simp
   | succ i => exact allLive_mem hl i id h
  ·cases hl
theorem ref_core (h : Rel C N D S ρ A a w) {zs args' : List AV} {L : List Nat} {H0 H H' : List (Nat × Blk)} {r : AV} {e0 : Eff} {d : Nat} (h0 : ∀ id, look H0 id = if memb L id = true then look S.hp id else none)
  (hle : ren.rens (liveIn H0 L) 40 zs = some args') (hH : renHp (liveIn H0 L) H0 = some H) (hal : allLive S.hp L = true) (hdL : distinct L = true) (hb : backEff S L d r H' = some e0) {vs : List Value} (hl : vs.length = zs.length)
  (hv : ∀ i x v, nth? zs i = some x → nth? vs i = some v → RV w A ρ x v) :
  ∃ ρc : Ren, vs.length = args'.length ∧ (∀ i x v, nth? args' i = some x → nth? vs i = some v → RV w A ρc x v) ∧ HeapRel w A ρc H ∧ (∀ id l, ρc id = some l → l.b < w.heap.size ∧ look H id ≠ none) ∧
   (∀ g x, C.gl g = some x → RV w A ρc (.pd x) (.pointer (some ⟨g, 0, none⟩))) ∧ (∀ k id l, look H k ≠ none → nth? L k = some id → ρ id = some l → ρc k = some l) ∧
   ∀ v w', (∃ ρ' A', RT w' A' ρ' r v ∧ HeapRel w' A' ρ' H' ∧ (∀ id l, look H' id ≠ none → ρc id = some l → ρ' id = some l) ∧ (∀ b, A' b → b < w'.heap.size) ∧ (∀ id l, ρ' id = some l → l.b < w'.heap.size) ∧ Evo w A (own ρc H) w' A' (own ρ' H')) →
    Done S ρ A w e0 (.ok (.value v) w') := by
 obtain ⟨p1, p2⟩ := rens_get 40 hle
 have hlive : ∀ id k, liveIn H0 L id = some k → look H0 id ≠ none ∧ nth? L k = some id := fun id k hk => by
  unfold liveIn at hk
  split at hk
  ·rename_i b hb; exact ⟨by rw [hb]; simp, (idxOf_nth hk).2⟩
  ·cases hk
 have hH0 := h.hp.part h0
 obtain ⟨f1, f2⟩ := renHp_look hH fun i j k h1 h2 _ _ => by
  have g1 := (hlive i k h1).2
  rw [(hlive j k h2).2] at g1; cases g1; rfl
 obtain ⟨ρc, hρc⟩ : ∃ ρc : Ren, ∀ k, ρc k = match nth? L k with | some id => (match look H k with | some _ => ρ id | none => none) | none => none := ⟨_, fun _ => rfl⟩
 have cOf : ∀ k id l, look H k ≠ none → nth? L k = some id → ρ id = some l → ρc k = some l := fun k id l g1 g2 g3 => by
  rw [hρc, g2]
  cases hk : look H k with
  | none => exact absurd hk g1
  | some b => exact g3
 have cGet : ∀ k l, ρc k = some l → ∃ id, nth? L k = some id ∧ look H k ≠ none ∧ ρ id = some l := fun k l g => by
  rw [hρc] at g
  split at g
  ·rename_i id hid
   split at g
   ·rename_i b hb; exact ⟨id, hid, by rw [hb]; simp, g⟩
   ·cases g
  ·cases g
 have hm : ∀ id k l, liveIn H0 L id = some k → ρ id = some l → ρc k = some l := fun id k l g1 g2 => by
  obtain ⟨g3, g4⟩ := hlive id k g1
  cases hb : look H0 id with
  | none => exact absurd hb g3
  | some b =>
   obtain ⟨b', g5, _⟩ := f2 id b k hb g1
   exact cOf k id l (by rw [g5]; simp) g4 g2
 have keyOf : ∀ k, look H k ≠ none → ∃ id b, look H0 id = some b ∧ liveIn H0 L id = some k ∧ nth? L k = some id := fun k g => by
  cases hb : look H k with
  | none => exact absurd hb g
  | some b' =>
   obtain ⟨id, b, g1, g2, g3⟩ := f1 k b' hb
   exact ⟨id, b, g1, g2, (hlive id k g2).2⟩
 have liveL : ∀ k id, nth? L k = some id → look S.hp id ≠ none := fun k id g => allLive_mem hal k id g
 have h0S : ∀ id, memb L id = true → look H0 id = look S.hp id := fun id g => by rw [h0, if_pos g]
 have hcH : HeapRel w A ρc H := by
  refine ⟨fun k b' hb => ?_, fun k k' l l' h1 h2 h3 h4 he => ?_, fun k l h1 h2 => ?_⟩
  ·obtain ⟨id, b, g1, g2, g3⟩ := f1 k b' hb
   rcases hH0.blk id b g1 with ⟨l, q1, q2, q3⟩ | ⟨q1, e1, f1', q2⟩
   ·refine .inl ⟨l, hm id k l g2 q1, ?_⟩
    cases b with
    | m => exact q2.elim
    | c t =>
     simp only [renBlk] at g3
     split at g3
     ·rename_i t' ht
      cases g3
      obtain ⟨cs, el, fz, us, rest, e1, e2, e3, e4, e5⟩ := q2
      exact ⟨⟨cs, el, fz, us, rest, e1, e2.imp_right fun q => ⟨q.1, ren_row1 ht q.2⟩, e3, e4.ren ht (fun k k' l g1 g2 => hm k k' l g1 g2), e5⟩, fun t'' htt => by cases htt; exact (q3 t rfl).trans (ren_shape _ ht)⟩
     ·cases g3
   ·subst q2
    simp only [renBlk, ren] at g3
    cases g3
    refine .inr ⟨?_, _, _, rfl⟩
    cases hk : ρc k with
    | none => rfl
    | some l =>
     obtain ⟨id2, g4, _, g5⟩ := cGet k l hk
     rw [(hlive id k g2).2] at g4; cases g4
     rw [q1] at g5; cases g5
  ·obtain ⟨id, g1, _, g2⟩ := cGet k l h3
   obtain ⟨id', g3, _, g4⟩ := cGet k' l' h4
   have := h.hp.inj id id' l l' (liveL k id g1) (liveL k' id' g3) g2 g4 he
   subst this
   obtain ⟨i1, b1, _, g5, g6⟩ := keyOf k h1
   obtain ⟨i2, b2, _, g7, g8⟩ := keyOf k' h2
   rw [g1] at g6; cases g6
   rw [g3] at g8; cases g8
   rw [g5] at g7; cases g7; rfl
  ·obtain ⟨id, g1, _, g2⟩ := cGet k l h2
   exact h.hp.apart id l (liveL k id g1) g2
 refine ⟨ρc, by rw [hl, p1], fun i x v hi hvi => ?_, hcH, fun k l hk => ?_, fun g x hg => ?_, cOf, fun v w' hR => ?_⟩
 ·obtain ⟨z, hz⟩ := nth?_some (l := zs) (i := i) (by have := nth?_lt hi; rw [p1] at this; exact this)
  obtain ⟨k, y, h3, h4, h5⟩ := p2 i z hz
  rw [hi] at h4; cases h4
  exact (hv i z v hz hvi).ren h5 fun k k' l g1 g2 => hm k k' l g1 g2
 ·obtain ⟨id, _, g1, g2⟩ := cGet k l hk
  exact ⟨(h.rb id l g2).1, g1⟩
 ·rcases h.gl g x hg with ⟨hlf, hr⟩ | ⟨hlf, _⟩
  ·exact .inl ⟨rfl, hr.noid rfl _⟩
  ·cases hlf
 ·obtain ⟨ρ', A', r1, r2, r3, r4, r5, r6⟩ := hR
  have hOc : ∀ b, own ρc H b → ∃ id l, memb L id = true ∧ look S.hp id ≠ none ∧ ρ id = some l ∧ l.b = b := fun b hb => by
   obtain ⟨k, l, g1, g2, g3⟩ := hb
   obtain ⟨id, g4, _, g5⟩ := cGet k l g2
   exact ⟨id, l, nth?_memb g4, liveL k id g4, g5, g3⟩
  unfold backEff at hb
  split at hb
  ·rename_i r' H'' ks b1 b2 b3
   split at hb
   ·rename_i b4 b5
    cases hb
    obtain ⟨i1, i2⟩ := mapAll_inj b3 b4
    refine back_done (L := L) (A1 := A) (Oc := own ρc H) h (fun _ h => h) (fun b hb => .inl hb) hOc (fun b hA hO => by obtain ⟨id, l, _, g2, g3, g4⟩ := hOc b hO; exact h.hp.apart id l g2 g3 (g4 ▸ hA)) r6 r1 r2 r4 r5 b1 b2 i2 (fun k x hk => (backId_spec hk).1)
     (fun k x hk => ?_) b5 (fun id hL hw => memb_minus.2 ⟨hL, ?_⟩) (fun id hL => ⟨?_, (memb_minus.1 hL).1⟩)
    ·rcases (backId_spec hk).2 with g | g
     ·refine .inr ⟨nth?_memb g, fun l hl => r3 k l (memb_keysOf.1 (backId_spec hk).1) (cOf k x l ?_ g hl)⟩
      -- the k-th is handed on
      have g1 := liveL k x g
      rw [← h0S x (nth?_memb g)] at g1
      cases hx0 : look H0 x with
      | none => exact absurd hx0 g1
      | some b0 =>
       have g2 : liveIn H0 L x = some k := by
        unfold liveIn; rw [hx0]
        have := nth_idxOf (i := 0) hdL g
        simpa using this
       obtain ⟨b', g3, _⟩ := f2 x b0 k hx0 g2
       rw [g3]; simp
     ·exact .inl g.2
    ·cases hm : memb (keysOf H'') id with
     | false => rfl
     | true => exact absurd hw (memb_keysOf.1 hm)
    ·cases hm : look H'' id with
     | none => rfl
     | some b => have := (memb_keysOf (l := H'') (i := id)).2 (by rw [hm]; simp); rw [(memb_minus.1 hL).2] at this; cases this
   ·cases hb
  ·cases hb
theorem acts_wp (K : CtxOK C P) (h : Rel C N D S ρ A a w) {W : Way} {o : Oper} {e : Eff} (hA : Acts C P D W o S e) (next : Act → World → Prop) (Q : Exit → Act → World → Prop)
  (hn : ∀ v w', Done S ρ A w e (.ok (.value v) w') → next (a.put o.dst v) w') : o.wpIn (FR D.round) 0 P a w next Q := by
 have fromDoes : ∀ {c : Call} {f : Operand} {g : FuncId} {caps xs : List AV}, o.op = .call c → c.callee = .value f → S.val C f = some (.fn (.func g) caps) → valL C S c.args.toList = some xs → noTups (xs ++ caps) = true →
   (∀ vs : List Value, vs.length = (xs ++ caps).length → (∀ i x v, nth? (xs ++ caps) i = some x → nth? vs i = some v → RV w A ρ x v) → Does P g vs.toArray w fun v w' => Done S ρ A w e (.ok (.value v) w')) → o.wpIn (FR D.round) 0 P a w next Q := by
  intro c f g caps xs ho hc hf hx hnt hD
  obtain ⟨vs, cap, k1, k2, k3, k4⟩ := call_args (P := P) h hc hf hx hnt
  have hd := hD vs k3 k4
  refine ⟨fun _ _ => trivial, ?_⟩
  rw [Oper.semAt_eq _ _ _ (by rw [ho]; intro c h; cases h)]
  unfold execOp
  simp only [ho, Sem.run_bind, k1, Result.andThen_ok, invoke, ← k2]
  unfold Does at hd
  split at hd
  ·rename_i v w' hr; rw [hr]; exact hn v w' hd
  ·rename_i f' as w' hr
   rw [hr]
   refine ⟨FR_depth, callsIn_FR (Calls.mono hd fun e w'' he => ?_)⟩
   cases e with
   | returned v => exact hn v w'' he
   | panicked ch => exact he.elim
   | outgrown => exact he.elim
  ·rename_i row as w' hr
   rw [hr]
   exact ⟨FR_depth, rowsIn_FR (Rows.mono hd fun v w'' he => hn v w'' he)⟩
  ·exact hd.elim
 cases hA with
 | plain he hob =>
  have hd := op_done K h he hob
  refine ⟨fun _ _ => trivial, ?_⟩
  rw [Oper.semAt_eq _ _ _ (by intro c hc; rw [hc] at he; simp [opEff] at he)]
  obtain ⟨nx, v, ρ', A', w', h1, h2, rest⟩ := hd
  rw [h1]
  rcases h2 with rfl | ⟨rfl, rfl⟩
  ·exact hn v w' ⟨_, v, ρ', A', w', rfl, .inl rfl, rest⟩
  ·exact hn _ w' ⟨_, _, ρ', A', w', rfl, .inl rfl, rest⟩
 | @lent c f g caps xs L H0 args' r H' e0 ho hc hf hx hnt h0 hle hF hb =>
  refine fromDoes ho hc hf hx hnt fun vs hl hv => Does.mono (does_lent h hl hv h0 hle hF) fun v w' hR => ?_
  obtain ⟨ρ', A', r1, r2, r3, r4, r5⟩ := hR
  unfold backEff at hb
  split at hb
  ·rename_i r' H'' ks b1 b2 b3
   split at hb
   ·rename_i b4 b5
    cases hb
    obtain ⟨i1, i2⟩ := mapAll_inj b3 b4
    have hfresh : ∀ k x, backId [] S.seen (keysOf H') (slot o.dst) k = some x → memb S.seen x = false := fun k x hk => by
     rcases (backId_spec hk).2 with h1 | h1
     ·cases k <;> cases h1
     ·exact h1.2
    refine back_done (L := L) (A1 := fun b => A b ∨ own ρ H0 b) (Oc := fun _ => False) h (fun _ h => .inl h) (fun b hb => hb.imp id fun hb => own_part h0 hb) (fun b hb => hb.elim) (fun _ _ h => h) r5 r1 r2 r3 r4 b1 b2 i2 (fun k x hk => (backId_spec hk).1)
     (fun k x hk => .inl (hfresh k x hk)) b5 (fun id hL hw => memb_minus.2 ⟨hL, ?_⟩) (fun id hL => ⟨?_, (memb_minus.1 hL).1⟩)
    ·cases hm : memb (keysOf H'') id with
     | false => rfl
     | true => exact absurd hw (memb_keysOf.1 hm)
    ·cases hm : look H'' id with
     | none => rfl
     | some b => have := (memb_keysOf (l := H'') (i := id)).2 (by rw [hm]; simp); rw [(memb_minus.1 hL).2] at this; cases this
   ·cases hb
  ·cases hb
 | @free c f g caps xs L H0 args' r r1 H' ho hc hf hx hnt h0 hle hF hrn hnm =>
  refine fromDoes ho hc hf hx hnt fun vs hl hv => Does.mono (does_lent h hl hv h0 hle hF) fun v w' hR => ?_
  obtain ⟨ρ', A', q1, q2, q3, q4, q5⟩ := hR
  have hh : ∀ id, look (hpAfter S.hp { v := r, rd := L }) id = look S.hp id := fun id => by simp [hpAfter, putAll, look_dropAll, memb]
  have ho : own ρ (hpAfter S.hp { v := r, rd := L }) = own ρ S.hp := by funext b; simp only [own, hh]
  have own0 : ∀ b, own ρ H0 b → own ρ S.hp b := fun b hb => by obtain ⟨id, l, _, g2, g3, g4⟩ := own_part h0 hb; exact ⟨id, l, g2, g3, g4⟩
  have hlt : ∀ b, own ρ S.hp b → b < w.heap.size := fun b hb => by obtain ⟨id, l, _, g2, rfl⟩ := hb; exact (h.rb id l g2).1
  have kp : Keeps w A ρ w' (fun b => A' b ∧ ¬ own ρ S.hp b) ρ := ⟨fun b hb => ⟨⟨q5.stay b (.inl hb), h.hp.not_own b hb⟩, q5.keep b (h.Ab b hb) id⟩, fun _ _ h => h, q5.cells⟩
  have hv2 : RT w' (fun b => A' b ∧ ¬ own ρ S.hp b) ρ r v := by
   have one : ∀ {x : AV} {u : Value}, noMem x → RV w' A' ρ' x u → RV w' (fun b => A' b ∧ ¬ own ρ S.hp b) ρ x u := fun hx hu => by
    rcases hu with ⟨hl, hu⟩ | ⟨hl, vs, e, hu⟩
    ·exact .inl ⟨hl, hu.noMem hx _ _⟩
    ·exact .inr ⟨hl, vs, e, hu.noMem hx _ _⟩
   by_cases ht : ∃ l, r = .tup l
   ·obtain ⟨l, rfl⟩ := ht
    obtain ⟨us, e, hl, hu⟩ := q1
    refine ⟨us, e, hl, fun i y u hy hyu => one ?_ (hu i y u hy hyu)⟩
    have many : ∀ (fs : List AV), noMem.noMems fs → ∀ i x, nth? fs i = some x → Bu.noMem x := by
     intro fs
     induction fs with
     | nil => intro _ i x hx; cases i <;> cases hx
     | cons y r ih =>
      intro hn i x hx
      simp only [noMem.noMems] at hn
      cases i with
      | zero => cases hx; exact hn.1
      | succ i => exact ih hn.2 i x hx
    exact many l (by simpa only [noMem] using hnm) i y hy
   ·exact (one hnm (q1.rv fun l e => ht ⟨l, e⟩)).rt
  refine ⟨.value v, v, ρ, fun b => A' b ∧ ¬ own ρ S.hp b, w', rfl, .inl rfl, hv2, ⟨fun id k hk => ?_, fun id id' l l' h1 h2 => h.hp.inj id id' l l' (by rwa [hh] at h1) (by rwa [hh] at h2), fun id l h1 h2 hb => hb.2 ⟨id, l, by rwa [hh] at h1, h2, rfl⟩⟩, fun _ _ h => h, fun id l hl => ?_, fun b hb => q3 b hb.1, fun id hid => ?_, ?_⟩
  ·rw [hh] at hk
   rcases h.hp.blk id k hk with ⟨l, g1, g2, g3⟩ | g
   ·refine .inl ⟨l, g1, ?_, g3⟩
    cases k with
    | m => exact g2.elim
    | c t =>
     obtain ⟨cs, el, fz, us, rest, e1, e2, e3, e4, e5⟩ := g2
     exact ⟨cs, el, fz, us, rest, by rw [q5.keep l.b (h.rb id l g1).1 (by simp)]; exact e1, e2, e3, e4.keep kp, e5⟩
   ·exact .inr g
  ·obtain ⟨g1, g2⟩ := h.rb id l hl
   exact ⟨Nat.lt_of_lt_of_le g1 q5.size, memb_addSeen.2 (.inl g2)⟩
  ·rw [hh] at hid; exact memb_addSeen.2 (.inl (h.sn id hid))
  ·rw [ho]
   refine ⟨q5.size, q5.os, q5.tape, q5.output, fun b hb _ => q5.keep b hb id, q5.cells, fun b hb => ⟨q5.stay b (.inl hb), h.hp.not_own b hb⟩, fun b hb => ?_, fun b hb => .inl hb⟩
   rcases q5.Anew b hb.1 with (g | g) | g | g
   ·exact .inl g
   ·exact absurd (own0 b g) hb.2
   ·exact g.elim
   ·exact .inr (.inr g)
 | @ref c f g caps xs L H0 args' H r H' e0 ho hc hf hx hnt h0 hle hH hal hdL hF hb =>
  refine fromDoes ho hc hf hx hnt fun vs hl hv => ?_
  obtain ⟨ρc, c1, c2, c3, c4, c5, _, c6⟩ := ref_core h h0 hle hH hal hdL hb hl hv
  exact Does.mono (hF ρc A w vs c1 c2 c3 h.Ab c4 c5) fun v w' ⟨ρ', A', r1, r2, r3, r4⟩ => c6 v w' ⟨ρ', A', r1, r2, fun id l _ hl => r3 id l hl, r4⟩
 | @yld c f l fs cs xs L H0 args' H r H' e0 ho hc hf hfs hx hnt h0 hle hH hal hdL hF hb =>
  obtain ⟨h1, h2⟩ := h.vals hx
  obtain rfl : fs = #[] := by simpa using hfs
  have hfv := rep_v ((h.val hf).leaf rfl)
  have hv : ∀ i x v, nth? xs i = some x → nth? (c.args.toList.map a.eval) i = some v → RV w A ρ x v := fun i x v hi hv => (h2 i x v hi hv).rv fun l e => notTup (noTups_mem hnt i x hi) l e
  obtain ⟨ρc, c1, c2, c3, c4, c5, cOf, c6⟩ := ref_core h h0 hle hH hal hdL hb (vs := c.args.toList.map a.eval) (by simpa using h1.symm) hv
  obtain ⟨fn, tmps, assign, body, hy, hr⟩ := hF ρc A w _ c1 c2 c3 h.Ab c4 c5 ⟨ρ, h.df.ex, cOf⟩ (fun i q hq => h.df.rc i q hq)
  refine ⟨fun _ _ => trivial, ?_⟩
  rw [Oper.semAt_eq _ _ _ (by rw [ho]; intro c h; cases h)]
  have he : (execOp a.eval o).run P w = .ok (.round l fn tmps assign body) w := by
   have hy' : (Instr.yield l (c.args.map a.eval)).run P w = .ok (.round l fn tmps assign body) w := by
    rw [← hy]; congr 1; congr 1; apply Array.ext'; simp
   unfold execOp
   simp [ho, resolve, hc, hfv, Deferred.ofValue, invoke, hy']
  rw [he]
  refine ⟨FR_depth, RoundIn.mono hr fun e w'' he => ?_⟩
  cases e with
  | returned v => exact hn v w'' (c6 v w'' he)
  | panicked ch => exact he.elim
  | outgrown => exact he.elim
end
end Go.Bu
namespace Go.Bu
section
variable {C : Ctx} {P : Program} {S S' : St}
theorem memb_head {k : Nat} {r : List Nat} : memb (k :: r) k = true := by simp [memb, Nat.beq_refl]
theorem newId_congr {s s' : List Nat} : ∀ {n d : Nat}, (∀ j, memb s' (d + 1000 * j) = memb s (d + 1000 * j)) → newId s' d n = newId s d n
 | 0, d, h => rfl
 | n + 1, d, h => by
  have h0 := h 0
  simp only [Nat.mul_zero, Nat.add_zero] at h0
  simp only [newId, h0]
  split
  ·exact newId_congr fun j => by
    have := h (j + 1)
    rwa [show d + 1000 * (j + 1) = d + 1000 + 1000 * j by omega] at this
  ·rfl
theorem valL_congr : ∀ {xs : List Operand}, (∀ x ∈ xs, S'.val C x = S.val C x) → valL C S' xs = valL C S xs
 | [], _ => rfl
 | x :: r, h => by simp only [valL, h x List.mem_cons_self, valL_congr fun y hy => h y (List.mem_cons_of_mem _ hy)]
theorem vals_congr : ∀ {xs : List (Nat × Operand)}, (∀ x ∈ xs.map (·.2), S'.val C x = S.val C x) → vals C S' xs = vals C S xs
 | [], _ => rfl
 | (i, x) :: r, h => by simp only [vals, h x List.mem_cons_self, vals_congr fun y hy => h y (List.mem_cons_of_mem _ hy)]
theorem optVal_congr {x : Option Operand} (h : ∀ y ∈ x.toList, S'.val C y = S.val C y) : optVal C S' x = optVal C S x := by
 cases x with
 | none => rfl
 | some y => simp only [optVal, h y (by simp)]
theorem dataOf_congr {x : AV} {n e : Nat} {f : Nat → AV} {rd : List Nat} (hd : dataOf S.hp x = some (n, e, f, rd)) (hh : ∀ id, memb rd id = true → look S'.hp id = look S.hp id) : dataOf S'.hp x = some (n, e, f, rd) := by
 unfold dataOf at hd ⊢
 split at hd
 ·exact hd
 ·exact hd
 ·rename_i id p o n c ex e
  have hk : rd = [id] := by
   split at hd
   ·split at hd
    ·split at hd <;> cases hd; rfl
    ·split at hd <;> cases hd; rfl
    ·cases hd
   ·cases hd
  subst hk
  rw [hh id memb_head]
  exact hd
 ·cases hd
theorem appendEff_congr {d : Nat} {inpl : Bool} {bytes esz m : Nat} {x : AV} {g : Nat → AV} {rd : List Nat} {e : Eff} (he : appendEff S.hp S.seen d inpl bytes esz x m g rd = some e) (hh : ∀ id, memb e.rd id = true → look S'.hp id = look S.hp id)
  (hs : newId S'.seen d 9 = newId S.seen d 9) : appendEff S'.hp S'.seen d inpl bytes esz x m g rd = some e ∧ ∀ id, memb rd id = true → memb e.rd id = true := by
 unfold appendEff at he ⊢
 rw [hs]
 split at he
 ·refine ⟨he, ?_⟩
  split at he
  ·split at he
   ·cases he; exact fun _ h => h
   ·split at he <;> cases he; exact fun _ h => h
  ·cases he
 ·rename_i id p o n c ex e0
  have hk : memb e.rd id = true ∧ ∀ id, memb rd id = true → memb e.rd id = true := by
   split at he
   ·split at he
    ·split at he
     ·split at he <;> cases he
      exact ⟨memb_head, fun i hi => by simp only [memb]; split <;> first | rfl | exact hi⟩
     ·cases he
    ·split at he
     ·split at he <;> cases he
      exact ⟨memb_head, fun i hi => by simp only [memb]; split <;> first | rfl | exact hi⟩
     ·cases he
   ·cases he
  refine ⟨?_, hk.2⟩
  have hl := hh id hk.1
  have hd : dataOf S'.hp (.sl id p o n c ex e0) = dataOf S.hp (.sl id p o n c ex e0) := by simp only [dataOf, hl]
  simp only [hl, hd]
  exact he
 ·cases he
theorem copyEff_congr {esz m : Nat} {x : AV} {g : Nat → AV} {rd : List Nat} {e : Eff} (he : copyEff S.hp esz x m g rd = some e) (hh : ∀ id, memb e.rd id = true → look S'.hp id = look S.hp id) :
  copyEff S'.hp esz x m g rd = some e ∧ ∀ id, memb rd id = true → memb e.rd id = true := by
 unfold copyEff at he ⊢
 split at he
 ·rename_i id p o n c ex e0
  have hk : memb e.rd id = true ∧ ∀ id, memb rd id = true → memb e.rd id = true := by
   split at he
   ·split at he
    ·split at he <;> cases he
     exact ⟨memb_head, fun i hi => by simp only [memb]; split <;> first | rfl | exact hi⟩
    ·cases he
   ·cases he
  refine ⟨?_, hk.2⟩
  simp only [hh id hk.1]
  exact he
 ·cases he
theorem builtinEff_congr {d : Nat} {inpl : Bool} {b : Builtin} {ts : List Nat} {args : List AV} {e : Eff} (he : builtinEff C S d inpl b ts args = some e) (hh : ∀ id, memb e.rd id = true → look S'.hp id = look S.hp id)
  (hs : newId S'.seen d 9 = newId S.seen d 9) : builtinEff C S' d inpl b ts args = some e := by
 unfold builtinEff at he ⊢
 split at he
 ·exact he
 ·
  split at he
  ·rename_i et hd0 hd1
   try simp only [hd0, hd1]
   split at he
   ·split at he
    ·rename_i b1 b2 b3
     try simp only [b1, b2, b3]
     exact (appendEff_congr he hh hs).1
    ·cases he
   ·cases he
  ·rename_i et e1 hd0 hd1
   try simp only [hd0, hd1]
   split at he
   ·rename_i m e' g rd hdat
    split at he
    ·rename_i b1 b2 b3
     obtain ⟨h1, h2⟩ := appendEff_congr he hh hs
     rw [dataOf_congr hdat fun id hid => hh id (h2 id hid)]
     try simp only [b1, b2, b3]
     exact h1
    ·cases he
   ·cases he
  ·rename_i et k1 hd0 hd1
   try simp only [hd0, hd1]
   split at he
   ·split at he
    ·rename_i ef b1 b2 b3
     cases he
     have h3 := (appendEff_congr b3 (fun id hid => hh id hid) hs).1
     simp only [b1, b2, h3]
    ·cases he
   ·cases he
  ·cases he
 ·
  split at he
  ·rename_i et hd0 hd1
   try simp only [hd0, hd1]
   split at he
   ·split at he
    ·rename_i b1 b2
     try simp only [b1, b2]
     exact (copyEff_congr he hh).1
    ·cases he
   ·cases he
  ·rename_i et e1 hd0 hd1
   try simp only [hd0, hd1]
   split at he
   ·rename_i m e' g rd hdat
    split at he
    ·rename_i b1 b2
     obtain ⟨h1, h2⟩ := copyEff_congr he hh
     rw [dataOf_congr hdat fun id hid => hh id (h2 id hid)]
     try simp only [b1, b2]
     exact h1
    ·cases he
   ·cases he
  ·cases he
 ·exact he
 ·exact he
 ·exact he
 ·split at he
  ·rename_i et id p o n c ex e' hd
   try simp only [hd]
   split at he
   ·rename_i ef hk hc
    cases he
    have h1 := (copyEff_congr hc fun id hid => hh id hid).1
    simp only [hk, h1]
   ·cases he
  ·cases he
 ·cases he
theorem convEff_congr {d src dst : Nat} {x : AV} {e : Eff} (he : convEff C S d src dst x = some e) (hh : ∀ id, memb e.rd id = true → look S'.hp id = look S.hp id)
  (hs : newId S'.seen d 9 = newId S.seen d 9) : convEff C S' d src dst x = some e := by
 unfold convEff at he ⊢
 rw [hs]
 split at he
 ·exact he
 ·exact he
 ·exact he
 ·rename_i et id p o n c ex es hk hd
  split at he
  ·rename_i et' b0 hds hde hsd hb
   have hk : memb e.rd id = true := by split at he <;> cases he; exact memb_head
   rw [hh id hk]
   simp only [hds, hde, hsd, hb]
   exact he
  ·cases he
 ·rename_i y hk hd hny hny2
  split at he
  ·rename_i et hds
   try simp only [hds]
   split at he
   ·rename_i n e1 f rd hdat hde
    split at he
    ·rename_i he1
     have hrd : e.rd = rd := by cases he; rfl
     rw [dataOf_congr hdat fun id hid => hh id (by rw [hrd]; exact hid)]
     try simp only [hde, he1]
     exact he
    ·cases he
   ·cases he
  ·cases he
 ·cases he
theorem opEff_congr {d : Nat} {i : Bool} {op : Op} {e : Eff} (he : opEff C S d i op = some e) (hv : ∀ x ∈ op.operands, S'.val C x = S.val C x) (hh : ∀ id, memb e.rd id = true → look S'.hp id = look S.hp id)
  (hs : newId S'.seen d 9 = newId S.seen d 9) : opEff C S' d i op = some e := by
 cases op with
 | move x | assign x | box t x | nilCheck x | unOp o t x | sliceToArrayPointer t x | makeInterface t x | field t x i | extract x i =>
  have h1 := hv x (by simp [Op.operands])
  simp only [opEff, h1, hs] at he ⊢; exact he
 | pick c x y =>
  have h1 := hv c (by simp [Op.operands]); have h2 := hv x (by simp [Op.operands]); have h3 := hv y (by simp [Op.operands])
  simp only [opEff, h1, h2, h3] at he ⊢; exact he
 | alloc t => simp only [opEff, hs] at he ⊢; exact he
 | build t ps =>
  have h1 : vals C S' ps.toList = vals C S ps.toList := vals_congr fun x hx => hv x (by simpa [Op.operands] using hx)
  simp only [opEff, h1] at he ⊢; exact he
 | buildSlice t n ps =>
  have h1 : vals C S' ps.toList = vals C S ps.toList := vals_congr fun x hx => hv x (by simpa [Op.operands] using hx)
  simp only [opEff, h1, hs] at he ⊢; exact he
 | binOp o t x y t' =>
  have h1 := hv x (by simp [Op.operands]); have h2 := hv y (by simp [Op.operands])
  simp only [opEff, h1, h2] at he ⊢; exact he
 | makeSlice t x y =>
  have h1 := hv x (by simp [Op.operands]); have h2 := hv y (by simp [Op.operands])
  simp only [opEff, h1, h2, hs] at he ⊢; exact he
 | index t x y =>
  have h1 := hv x (by simp [Op.operands]); have h2 := hv y (by simp [Op.operands])
  simp only [opEff, h1, h2] at he ⊢; exact he
 | makeFunc f fi ca =>
  have h1 : valL C S' ca.toList = valL C S ca.toList := valL_congr fun x hx => hv x (by simp [Op.operands]; right; simpa using hx)
  simp only [opEff, h1] at he ⊢; exact he
 | load t x =>
  have h1 := hv x (by simp [Op.operands])
  simp only [opEff, h1] at he ⊢
  split at he
  ·exact he
  ·rename_i id p hx
   have hk : memb e.rd id = true := by
    split at he
    ·split at he
     ·split at he <;> cases he; exact memb_head
     ·cases he
    ·cases he
   simp only [hh id hk]; exact he
  ·cases he
 | store t x y =>
  have h1 := hv x (by simp [Op.operands]); have h2 := hv y (by simp [Op.operands])
  simp only [opEff, h1, h2] at he ⊢
  split at he
  ·rename_i id p v hx hy
   have hk : memb e.rd id = true := by
    split at he
    ·split at he <;> cases he; exact memb_head
    ·cases he
   simp only [hh id hk]; exact he
  ·cases he
 | convert s t x =>
  have h1 := hv x (by simp [Op.operands])
  simp only [opEff, h1] at he ⊢
  split at he
  ·exact convEff_congr he hh hs
  ·cases he
 | slice t x lo hi mx =>
  have h1 := hv x (by simp [Op.operands])
  have h2 : optVal C S' lo = optVal C S lo := optVal_congr fun y hy => hv y (by simp [Op.operands]; simp at hy; simp [hy])
  have h3 : optVal C S' hi = optVal C S hi := optVal_congr fun y hy => hv y (by simp [Op.operands]; simp at hy; simp [hy])
  have h4 : optVal C S' mx = optVal C S mx := optVal_congr fun y hy => hv y (by simp [Op.operands]; simp at hy; simp [hy])
  simp only [opEff, h1, h2, h3, h4] at he ⊢
  split at he
  ·rename_i v l hh' m hx hl hi' hm
   split at he
   ·rename_i id p n et st hd
    have hk : memb e.rd id = true := by
     split at he
     ·split at he
      ·split at he
       ·split at he
        ·cases he; exact memb_head
        ·cases he
       ·cases he
      ·cases he
     ·cases he
    simp only [hh id hk]; exact he
   ·exact he
   ·exact he
   ·exact he
   ·cases he
  ·cases he
 | fieldAddr t x f =>
  have h1 := hv x (by simp [Op.operands])
  simp only [opEff, h1] at he ⊢
  split at he
  ·exact he
  ·rename_i id p gs hx hd
   have hk : memb e.rd id = true := by
    split at he
    ·split at he
     ·split at he
      ·split at he <;> cases he; exact memb_head
      ·cases he
     ·cases he
    ·cases he
   simp only [hh id hk]; exact he
  ·cases he
 | indexAddr t x y =>
  have h1 := hv x (by simp [Op.operands]); have h2 := hv y (by simp [Op.operands])
  simp only [opEff, h1, h2] at he ⊢
  split at he
  ·exact he
  ·exact he
  ·exact he
  ·exact he
  ·rename_i id p k i' m et st hx hy hd
   have hk : memb e.rd id = true := by
    split at he
    ·split at he
     ·split at he <;> cases he; exact memb_head
     ·split at he <;> cases he; exact memb_head
     ·cases he
    ·cases he
   simp only [hh id hk]; exact he
  ·cases he
 | call c =>
  simp only [opEff] at he ⊢
  split at he
  ·rename_i b hc
   have h1 : valL C S' c.args.toList = valL C S c.args.toList := valL_congr fun x hx => hv x (by simp [Op.operands, Call.operands, hc]; simpa using hx)
   simp only [h1]
   split at he
   ·exact builtinEff_congr he hh hs
   ·cases he
  ·cases he
 | _ => simp [opEff] at he
theorem backEff_congr {L : List Nat} {d : Nat} {r : AV} {H' : List (Nat × Blk)} (hs : ∀ j, memb S'.seen (d + 1000 * j) = memb S.seen (d + 1000 * j)) : backEff S' L d r H' = backEff S L d r H' := by
 have : backId L S'.seen (keysOf H') d = backId L S.seen (keysOf H') d := by
  funext k
  unfold backId
  rw [newId_congr fun j => ?_]
  have := hs (k - L.length + j)
  rwa [show d + 1000 * (k - L.length + j) = d + 1000 * (k - L.length) + 1000 * j by omega] at this
 unfold backEff
 rw [this]
theorem backEff_rd {L : List Nat} {d : Nat} {r : AV} {H' : List (Nat × Blk)} {e : Eff} (h : backEff S L d r H' = some e) : e.rd = L := by
 unfold backEff at h
 split at h
 ·split at h <;> cases h; rfl
 ·cases h
theorem allLive_congr : ∀ {L : List Nat}, (∀ id, memb L id = true → look S'.hp id = look S.hp id) → allLive S'.hp L = allLive S.hp L
 | [], _ => rfl
 | k :: r, h => by
  simp only [allLive, h k memb_head]
  rw [allLive_congr fun id hid => h id (by simp only [memb]; split <;> first | rfl | exact hid)]
theorem acts_congr {D : Dom} {W : Way} {o : Oper} {e : Eff} (hA : Acts C P D W o S e) (hv : ∀ x ∈ o.op.operands, S'.val C x = S.val C x) (hh : ∀ id, memb e.rd id = true → look S'.hp id = look S.hp id)
  (hs : ∀ j, memb S'.seen (slot o.dst + 1000 * j) = memb S.seen (slot o.dst + 1000 * j)) : Acts C P D W o S' e := by
 have h0' : ∀ {H0 : List (Nat × Blk)} {L : List Nat}, (∀ id, look H0 id = if memb L id = true then look S.hp id else none) → (∀ id, memb L id = true → look S'.hp id = look S.hp id) → ∀ id, look H0 id = if memb L id = true then look S'.hp id else none :=
  @fun H0 L h0 hl id => by
   rw [h0]
   by_cases hm : memb L id = true
   ·rw [if_pos hm, if_pos hm, hl id hm]
   ·rw [if_neg hm, if_neg hm]
 have args : ∀ {c : Call} {f : Operand}, o.op = .call c → c.callee = .value f → S'.val C f = S.val C f ∧ valL C S' c.args.toList = valL C S c.args.toList := fun ho hc =>
  ⟨hv _ (by simp [ho, Op.operands, Call.operands, hc]), valL_congr fun x hx => hv x (by simp [ho, Op.operands, Call.operands, hc]; right; simpa using hx)⟩
 cases hA with
 | plain he hob => exact .plain (opEff_congr he hv hh (newId_congr hs)) hob
 | lent ho hc hf hx hnt h0 hle hF hb =>
  obtain ⟨a1, a2⟩ := args ho hc
  exact .lent ho hc (a1.trans hf) (a2.trans hx) hnt (h0' h0 hh) hle hF ((backEff_congr hs).trans hb)
 | free ho hc hf hx hnt h0 hle hF hrn hnm =>
  obtain ⟨a1, a2⟩ := args ho hc
  exact .free ho hc (a1.trans hf) (a2.trans hx) hnt (h0' h0 hh) hle hF hrn hnm
 | ref ho hc hf hx hnt h0 hle hH hal hdL hF hb =>
  obtain ⟨a1, a2⟩ := args ho hc
  have hrd := backEff_rd hb
  rw [hrd] at hh
  exact .ref ho hc (a1.trans hf) (a2.trans hx) hnt (h0' h0 hh) hle hH ((allLive_congr hh).trans hal) hdL hF ((backEff_congr hs).trans hb)
 | yld ho hc hf hfs hx hnt h0 hle hH hal hdL hF hb =>
  obtain ⟨a1, a2⟩ := args ho hc
  have hrd := backEff_rd hb
  rw [hrd] at hh
  exact .yld ho hc (a1.trans hf) hfs (a2.trans hx) hnt (h0' h0 hh) hle hH ((allLive_congr hh).trans hal) hdL hF ((backEff_congr hs).trans hb)
end
end Go.Bu
namespace Go.Bu
theorem memb_append {l r : List Nat} {i : Nat} : memb (l ++ r) i = true ↔ memb l i = true ∨ memb r i = true := by
 simp [memb_iff]
theorem meets_iff : ∀ {l r : List Nat}, meets l r = true ↔ ∃ i, memb l i = true ∧ memb r i = true
 | [], r => by simp [meets, memb]
 | k :: l, r => by
  simp only [meets]
  split
  ·rename_i h; exact ⟨fun _ => ⟨k, memb_head, h⟩, fun _ => rfl⟩
  ·rename_i h
   rw [meets_iff]
   constructor
   ·rintro ⟨i, h1, h2⟩; exact ⟨i, by simp only [memb]; split <;> first | rfl | exact h1, h2⟩
   ·rintro ⟨i, h1, h2⟩
    simp only [memb] at h1
    split at h1
    ·rename_i hb; obtain rfl := beq_iff.1 hb; rw [h] at h2; cases h2
    ·exact ⟨i, h1, h2⟩
theorem inRow_iff {d : Nat} : ∀ {l : List Nat}, inRow d l = true ↔ ∃ i, memb l i = true ∧ i % 1000 = d % 1000
 | [] => by simp [inRow, memb]
 | k :: l => by
  simp only [inRow]
  split
  ·rename_i h; exact ⟨fun _ => ⟨k, memb_head, beq_iff.1 h⟩, fun _ => rfl⟩
  ·rename_i h
   rw [inRow_iff]
   constructor
   ·rintro ⟨i, h1, h2⟩; exact ⟨i, by simp only [memb]; split <;> first | rfl | exact h1, h2⟩
   ·rintro ⟨i, h1, h2⟩
    simp only [memb] at h1
    split at h1
    ·rename_i hb; obtain rfl := beq_iff.1 hb; rw [beq_iff.2 h2] at h; cases h
    ·exact ⟨i, h1, h2⟩
theorem look_putAll' : ∀ (l H : List (Nat × Blk)) (i : Nat), look (putAll H l) i = match look (putAll [] l) i with | some b => some b | none => look H i
 | [], H, i => by simp [putAll, look]
 | (k, y) :: r, H, i => by
  simp only [putAll]
  rw [look_putAll' r (put H k y), look_putAll' r (put [] k y)]
  cases look (putAll [] r) i with
  | some b => rfl
  | none =>
   simp only [look_put]
   split <;> simp [look]
theorem look_putAll_none : ∀ (l : List (Nat × Blk)) (i : Nat), memb (keysOf l) i = false → look (putAll [] l) i = none
 | [], i, _ => by simp [putAll, look]
 | (k, y) :: r, i, h => by
  simp only [keysOf, memb] at h
  split at h
  ·cases h
  ·rename_i hb
   simp only [putAll]
   rw [look_putAll', look_putAll_none r i h]
   simp only [look_put]
   rw [if_neg fun e => by subst e; simp [Nat.beq_refl] at hb]
   simp [look]
theorem look_apply {S : St} {dst : Option Nat} {e : Eff} (i : Nat) : look (S.apply dst e).hp i = if memb e.dead i = true then none else match look (putAll [] e.wr) i with | some b => some b | none => look S.hp i := by
 simp only [St.apply, look_dropAll, look_putAll' e.wr S.hp]
theorem look_tm {S : St} {dst : Option Nat} {e : Eff} (t : Nat) : look (S.apply dst e).tm t = if dst = some t then some e.v else look S.tm t := by
 cases dst with
 | none => simp [St.apply]
 | some d => simp [St.apply, look_put]
theorem memb_seen {S : St} {dst : Option Nat} {e : Eff} (i : Nat) : memb (S.apply dst e).seen i = true ↔ memb S.seen i = true ∨ memb (keysOf e.wr) i = true := by
 show memb (addSeen S.seen e.wr) i = true ↔ _
 rw [memb_addSeen]
 have key : ∀ (q : List (Nat × Blk)), (∃ b, (i, b) ∈ q) ↔ memb (keysOf q) i = true := by
  intro q
  induction q with
  | nil => simp [keysOf, memb]
  | cons y r ih =>
   obtain ⟨k, b⟩ := y
   simp only [keysOf, memb, List.mem_cons]
   cases hb : Nat.beq k i with
   | true => obtain rfl := beq_iff.1 hb; exact ⟨fun _ => rfl, fun _ => ⟨b, .inl rfl⟩⟩
   | false =>
    rw [← ih]
    constructor
    ·rintro ⟨b', h | h⟩
     ·cases h; simp [Nat.beq_refl] at hb
     ·exact ⟨b', h⟩
    ·rintro ⟨b', h⟩; exact ⟨b', .inr h⟩
 rw [key]
section
variable (S0 : St) (dst : Nat → Option Nat) (ef : Nat → Eff)
def lastT (L : Nat → Bool) (t : Nat) : Nat → Option AV
 | 0 => look S0.tm t
 | k + 1 => if L k = true ∧ dst k = some t then some (ef k).v else lastT L t k
def lastH (L : Nat → Bool) (i : Nat) : Nat → Option Blk
 | 0 => look S0.hp i
 | k + 1 => if L k = true ∧ memb (ef k).wrs i = true then (if memb (ef k).dead i = true then none else look (putAll [] (ef k).wr) i) else lastH L i k
structure Behind (n : Nat) (L : Nat → Bool) (T : St) : Prop where
  tm : ∀ t, look T.tm t = lastT S0 dst ef L t n
  hp : ∀ i, look T.hp i = lastH S0 ef L i n
  sn : ∀ i, memb T.seen i = true ↔ memb S0.seen i = true ∨ ∃ k, k < n ∧ L k = true ∧ memb (keysOf (ef k).wr) i = true
variable {S0 dst ef}
theorem lastT_congr {L L' : Nat → Bool} {t : Nat} : ∀ {n : Nat}, (∀ k, k < n → dst k = some t → L k = L' k) → lastT S0 dst ef L t n = lastT S0 dst ef L' t n
 | 0, _ => rfl
 | n + 1, h => by
  simp only [lastT]
  rw [lastT_congr fun k hk => h k (by omega)]
  by_cases hd : dst n = some t
  ·rw [h n (by omega) hd]
  ·simp [hd]
theorem lastH_congr {L L' : Nat → Bool} {i : Nat} : ∀ {n : Nat}, (∀ k, k < n → memb (ef k).wrs i = true → L k = L' k) → lastH S0 ef L i n = lastH S0 ef L' i n
 | 0, _ => rfl
 | n + 1, h => by
  simp only [lastH]
  rw [lastH_congr fun k hk => h k (by omega)]
  by_cases hd : memb (ef n).wrs i = true
  ·rw [h n (by omega) hd]
  ·simp [hd]
theorem lastT_at {L : Nat → Bool} {t i : Nat} (hi : L i = true) (hd : dst i = some t) : ∀ {n : Nat}, i < n → (∀ k, i < k → k < n → dst k = some t → L k = false) → lastT S0 dst ef L t n = some (ef i).v
 | 0, h, _ => by omega
 | n + 1, h, hn => by
  simp only [lastT]
  by_cases e : i = n
  ·subst e; simp [hi, hd]
  ·rw [if_neg fun ⟨h1, h2⟩ => by rw [hn n (by omega) (by omega) h2] at h1; cases h1]
   exact lastT_at hi hd (by omega) fun k h1 h2 => hn k h1 (by omega)
theorem lastH_at {L : Nat → Bool} {j i : Nat} (hi : L i = true) (hd : memb (ef i).wrs j = true) : ∀ {n : Nat}, i < n → (∀ k, i < k → k < n → memb (ef k).wrs j = true → L k = false) →
  lastH S0 ef L j n = if memb (ef i).dead j = true then none else look (putAll [] (ef i).wr) j
 | 0, h, _ => by omega
 | n + 1, h, hn => by
  simp only [lastH]
  by_cases e : i = n
  ·subst e; simp [hi, hd]
  ·rw [if_neg fun ⟨h1, h2⟩ => by rw [hn n (by omega) (by omega) h2] at h1; cases h1]
   exact lastH_at hi hd (by omega) fun k h1 h2 => hn k h1 (by omega)
def with1 (L : Nat → Bool) (i : Nat) : Nat → Bool := fun k => if k = i then true else L k
theorem Behind.step {n : Nat} {L : Nat → Bool} {T : St} (h : Behind S0 dst ef n L T) {i : Nat} (hi : i < n) (hn : L i = false)
  (ht : ∀ k, i < k → k < n → ∀ t, dst i = some t → dst k = some t → L k = false) (hh : ∀ k, i < k → k < n → ∀ j, memb (ef i).wrs j = true → memb (ef k).wrs j = true → L k = false) :
  Behind S0 dst ef n (with1 L i) (T.apply (dst i) (ef i)) := by
 have hLi : with1 L i i = true := by simp [with1]
 have hLk : ∀ k, k ≠ i → with1 L i k = L k := fun k hk => by simp [with1, hk]
 refine ⟨fun t => ?_, fun j => ?_, fun j => ?_⟩
 ·rw [look_tm]
  by_cases hd : dst i = some t
  ·rw [if_pos hd, lastT_at hLi hd hi fun k h1 h2 h3 => by rw [hLk k (by omega)]; exact ht k h1 h2 t hd h3]
  ·rw [if_neg hd, h.tm, lastT_congr fun k hk hkd => (hLk k fun e => hd (e ▸ hkd)).symm]
 ·rw [look_apply]
  by_cases hd : memb (ef i).wrs j = true
  ·rw [lastH_at hLi hd hi fun k h1 h2 h3 => by rw [hLk k (by omega)]; exact hh k h1 h2 j hd h3]
   split
   ·rfl
   ·rename_i hdead
    rcases memb_append.1 hd with hw | hw
    ·cases hq : look (putAll [] (ef i).wr) j with
     | some b => rfl
     | none =>
      exfalso
      have key : ∀ (l H : List (Nat × Blk)), memb (keysOf l) j = true → look (putAll H l) j ≠ none := by
       intro l
       induction l with
       | nil => intro H h; simp [keysOf, memb] at h
       | cons y r ih =>
        obtain ⟨k, b⟩ := y
        intro H h
        simp only [keysOf, memb] at h
        simp only [putAll]
        cases hr : memb (keysOf r) j with
        | true => exact ih _ hr
        | false =>
         split at h
         ·rename_i hb
          obtain rfl := beq_iff.1 hb
          rw [look_putAll', look_putAll_none r k hr]
          simp [look_put]
         ·rw [hr] at h; cases h
      exact key _ _ hw hq
    ·exact absurd hw hdead
  ·have h1 : memb (ef i).dead j = false := by
    cases hq : memb (ef i).dead j with
    | false => rfl
    | true => exact absurd (memb_append.2 (.inr hq)) hd
   have h2 : memb (keysOf (ef i).wr) j = false := by
    cases hq : memb (keysOf (ef i).wr) j with
    | false => rfl
    | true => exact absurd (memb_append.2 (.inl hq)) hd
   rw [h1, look_putAll_none _ _ h2, h.hp, lastH_congr fun k hk hkd => (hLk k fun e => hd (e ▸ hkd)).symm]
   simp
 ·rw [memb_seen, h.sn]
  constructor
  ·rintro ((h1 | ⟨k, h1, h2, h3⟩) | h1)
   ·exact .inl h1
   ·exact .inr ⟨k, h1, by rw [hLk k fun e => by subst e; rw [hn] at h2; cases h2]; exact h2, h3⟩
   ·exact .inr ⟨i, hi, hLi, h1⟩
  ·rintro (h1 | ⟨k, h1, h2, h3⟩)
   ·exact .inl (.inl h1)
   ·by_cases e : k = i
    ·subst e; exact .inr h3
    ·exact .inl (.inr ⟨k, h1, by rw [← hLk k e]; exact h2, h3⟩)
end
end Go.Bu

