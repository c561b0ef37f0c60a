/- What single operations do. -/
import Derived.Test.YtoaefniopgmoaaaDoorK0
import Derived.Laws.Cells
import Derived.Laws.IdiomCopy
namespace Go.Bu
def tdOK (P : Program) (t : Nat) : TD → Prop
 | .int k => P.underlying t = some (.int k)
 | .bool => P.underlying t = some .bool
 | .str => P.underlying t = some .string
 | .slice e => P.underlying t = some (.slice e)
 | .array n e _ => P.underlying t = some (.array n e)
 | .struct fs => ∃ fields : Array Field, P.underlying t = some (.struct fields) ∧ fields.toList.map (fun f => (f.type, f.offset)) = fs ∧ ∀ f ∈ fields.toList, f.name ≠ "_"
 | .map k e => P.underlying t = some (.map k e)
 | .ptr e => P.underlying t = some (.pointer e)
 | .func => ∃ a b c, P.underlying t = some (.func a b c)
 | .iface => ∃ ms, P.underlying t = some (.interface ms)
 | .other => True
structure CtxOK (C : Ctx) (P : Program) : Prop where
  td : ∀ t, tdOK P t (C.tt t).d
  eqg : ∀ t, ptrFree C.tt 9 t = true → P.eqGuardType P.depth t = false
  held : ∀ t fs, (C.tt t).d = .struct fs → P.stoodInHeld t = false
  info : ∀ t, (C.tt t).d.known = true → ∃ i z, P.info? t = some i ∧ i.size = (C.tt t).size ∧ i.bytes = (C.tt t).bytes ∧ i.zero = some z ∧ (∀ w A ρ, RV w A ρ (zeroAV C.tt 9 t) z) ∧ fitsT C t (zeroAV C.tt 9 t) = true
section
variable {C : Ctx} {P : Program} (K : CtxOK C P) {w : World} {A : Nat → Prop} {ρ : Ren}
theorem run_underlying {t : Nat} {d : TypeDesc} (h : P.underlying t = some d) : (underlying t).run P w = .ok d w := by
 simp [underlying, h]
theorem run_info {t : Nat} {i : TypeInfo} (h : P.info? t = some i) : (typeInfo t).run P w = .ok i w := by
 simp [typeInfo, h]
include K in
theorem run_sizeOf {t : Nat} (h : (C.tt t).d.known = true) : (sizeOf t).run P w = .ok (C.tt t).size w := by
 obtain ⟨i, z, h1, h2, _⟩ := K.info t h
 simp [sizeOf, typeInfo, h1, h2]
include K in
theorem run_zero {t : Nat} (h : (C.tt t).d.known = true) : ∃ z, (zeroValue t).run P w = .ok z w ∧ ∀ w A ρ, RV w A ρ (zeroAV C.tt 9 t) z := by
 obtain ⟨i, z, h1, h2, h3, h4, h5, _⟩ := K.info t h
 exact ⟨z, by simp [zeroValue, typeInfo, h1, h4], h5⟩
theorem fits_known {t : Nat} {x : AV} (h : fitsT C t x = true) : (C.tt t).d.known = true := by
 unfold fitsT at h
 split at h
 ·cases h
 ·cases h
 ·split at h <;> simp_all [TD.known]
include K in
theorem run_isAgg {t : Nat} {x : AV} (h : fitsT C t x = true) : (isAgg t).run P w = .ok (!leaf x) w := by
 have htd := K.td t
 unfold fitsT at h
 unfold isAgg
 split at h
 ·cases h
 ·cases h
 ·split at h
  ·rename_i fs hd
   rw [hd] at htd
   obtain ⟨fields, hu, _⟩ := htd
   simp [run_underlying hu, h]
  ·rename_i n e st hd
   rw [hd] at htd
   simp only [tdOK] at htd
   simp [run_underlying htd, h]
  ·cases h
  ·rename_i d h1 h2 h3
   cases hd : (C.tt t).d <;> simp only [hd, tdOK] at htd <;> first
    | (exact absurd hd (h1 _))
    | (exact absurd hd (h2 _ _ _))
    | (exact absurd hd h3)
    | (simp [run_underlying htd, h]; done)
    | (obtain ⟨_, htd⟩ := htd; simp [run_underlying htd, h])
    | (obtain ⟨_, _, _, htd⟩ := htd; simp [run_underlying htd, h])
theorem fits_size {t : Nat} {x : AV} (h : fitsT C t x = true) : x.size = (C.tt t).size := by
 unfold fitsT at h
 split at h
 ·cases h
 ·cases h
 ·exact beq_iff.1 (by assumption)
theorem addr_add (b o n : Nat) : (⟨b, o, none⟩ : Addr).add n = ⟨b, o + n, none⟩ := by unfold Addr.add; split <;> simp_all
theorem run_loadVar_rep (K : CtxOK C P) {t b o : Nat} {x : AV} {us : List Value} (hf : fitsT C t x = true) (hc : ∀ j, j < us.length → w.cell? ⟨b, o + j, none⟩ = us[j]?) (hr : Rep w A ρ x us) :
  ∃ v, (loadVar t ⟨b, o, none⟩).run P w = .ok v w ∧ RV w A ρ x v := by
 have ha := run_isAgg (w := w) K hf
 have hlen := hr.len
 unfold loadVar
 cases hl : leaf x with
 | true =>
  rw [size_leaf hl] at hlen
  match us, hlen with
  | [v], _ =>
   refine ⟨v, ?_, .inl ⟨hl, hr⟩⟩
   have h0 := hc 0 (by simp)
   simp at h0
   simp [ha, hl, h0]
 | false =>
  refine ⟨.agg us.toArray, ?_, .inr ⟨hl, us, rfl, hr⟩⟩
  have hs := run_sizeOf (w := w) K (fits_known hf)
  rw [← fits_size hf, ← hlen] at hs
  have hcs := run_loadCells_list (P := P) w ⟨b, o, none⟩ us fun j v hj => by
   rw [addr_add, hc j (List.getElem?_eq_some_iff.1 hj).1, hj]
  simp [ha, hl, hs, hcs]
end
def hpAfter (H : List (Nat × Blk)) (e : Eff) : List (Nat × Blk) := dropAll (putAll H e.wr) e.dead
def Done (S : St) (ρ : Ren) (A : Nat → Prop) (w : World) (e : Eff) (res : Result Next) : Prop :=
 ∃ (nx : Next) (v : Value) (ρ' : Ren) (A' : Nat → Prop) (w' : World), res = .ok nx w' ∧ (nx = .value v ∨ (nx = .skip ∧ v = undef)) ∧ RT w' A' ρ' e.v v ∧
  HeapRel w' A' ρ' (hpAfter S.hp e) ∧ (∀ id l, ρ id = some l → ρ' id = some l) ∧ (∀ id l, ρ' id = some l → l.b < w'.heap.size ∧ memb (addSeen S.seen e.wr) id = true) ∧
  (∀ b, A' b → b < w'.heap.size) ∧ (∀ id, look (hpAfter S.hp e) id ≠ none → memb (addSeen S.seen e.wr) id = true) ∧ Evo w A (own ρ S.hp) w' A' (own ρ' (hpAfter S.hp e))
section
variable {C : Ctx} {N : Nat} {D : Dom} {S : St} {ρ : Ren} {A : Nat → Prop} {a : Act} {w : World}
theorem Rel.keeps (h : Rel C N D S ρ A a w) {w' : World} {A' O' : Nat → Prop} {ρ' : Ren} (e : Evo w A (own ρ S.hp) w' A' O') (hr : ∀ id l, ρ id = some l → ρ' id = some l) : Keeps w A ρ w' A' ρ' :=
 .of_evo e h.Ab h.hp.not_own hr
theorem Done.rel (h : Rel C N D S ρ A a w) {e : Eff} {res : Result Next} (hd : Done S ρ A w e res) (dst : Option Nat) (hn : ∀ d, dst = some d → d < N) :
  ∃ (nx : Next) (v : Value) (ρ' : Ren) (A' : Nat → Prop) (w' : World), res = .ok nx w' ∧ (nx = .value v ∨ (nx = .skip ∧ v = undef)) ∧ Rel C N D (S.apply dst e) ρ' A' (a.put dst v) w' ∧
   Evo w A (own ρ S.hp) w' A' (own ρ' (S.apply dst e).hp) ∧ ∀ id l, ρ id = some l → ρ' id = some l := by
 obtain ⟨nx, v, ρ', A', w', h1, h2, h3, h4, h5, h6, h7, h8, h9⟩ := hd
 have k := h.keeps h9 h5
 have base : Rel C N D { S with hp := hpAfter S.hp e, seen := addSeen S.seen e.wr } ρ' A' a w' :=
  ⟨fun t x hx => by obtain ⟨u, hu, hr⟩ := h.tm t x hx; exact ⟨u, hu, hr.keep k⟩, h.nt, h.df.evo k h9 fun b hb => h.hp.own_cells hb, h4, h7, h6, h8, fun g x hg => (h.gl g x hg).keep k⟩
 exact ⟨nx, v, ρ', A', w', h1, h2, base.put dst hn h3, h9, h5⟩
theorem Done.pure (h : Rel C N D S ρ A a w) {e : Eff} {res : Result Next} {v : Value} (hres : res = .ok (.value v) w) (hv : RT w A ρ e.v v) (hw : e.wr = []) (hd : e.dead = []) : Done S ρ A w e res := by
 have hh : ∀ id, look (hpAfter S.hp e) id = look S.hp id := fun id => by simp [hpAfter, hw, hd, putAll, look_dropAll, memb]
 have ho : own ρ (hpAfter S.hp e) = own ρ S.hp := by funext b; simp only [own, hh]
 refine ⟨_, v, ρ, A, w, hres, .inl rfl, hv, ?_, fun _ _ h => h, ?_, h.Ab, ?_, ?_⟩
 ·exact ⟨fun id k hk => h.hp.blk id k (by rwa [hh] at hk), fun id id' l l' h1 h2 => h.hp.inj id id' l l' (by rwa [hh] at h1) (by rwa [hh] at h2), fun id l h1 => h.hp.apart id l (by rwa [hh] at h1)⟩
 ·rw [hw]; exact h.rb
 ·rw [hw]; intro id hid; rw [hh] at hid; exact h.sn id hid
 ·rw [ho]; exact .refl _ _ _
theorem newId_fresh {seen : List Nat} {id : Nat} : ∀ {n d : Nat}, newId seen d n = some id → memb seen id = false
 | 0, d, h => by cases h
 | n + 1, d, h => by
  simp only [newId] at h
  split at h
  ·exact newId_fresh h
  ·cases h; assumption
theorem memb_addSeen {s : List Nat} {l : List (Nat × Blk)} {n : Nat} : memb (addSeen s l) n = true ↔ memb s n = true ∨ ∃ b, (n, b) ∈ l := by
 induction l generalizing s with
 | nil => simp [addSeen]
 | cons x r ih =>
  obtain ⟨i, b⟩ := x
  simp only [addSeen]
  split
  ·rename_i hm
   rw [ih]
   constructor
   ·rintro (h | ⟨b', h⟩)
    ·exact .inl h
    ·exact .inr ⟨b', List.mem_cons_of_mem _ h⟩
   ·rintro (h | ⟨b', h⟩)
    ·exact .inl h
    ·rcases List.mem_cons.1 h with h | h
     ·cases h; exact .inl hm
     ·exact .inr ⟨b', h⟩
  ·rw [ih, memb_iff, memb_iff, List.mem_cons]
   constructor
   ·rintro ((h | h) | ⟨b', h⟩)
    ·subst h; exact .inr ⟨b, List.mem_cons_self⟩
    ·exact .inl h
    ·exact .inr ⟨b', List.mem_cons_of_mem _ h⟩
   ·rintro (h | ⟨b', h⟩)
    ·exact .inl (.inr h)
    ·rcases List.mem_cons.1 h with h | h
     ·cases h; exact .inl (.inl rfl)
     ·exact .inr ⟨b', h⟩
def pushed (w : World) (o : Obj) : World := { w with heap := w.heap.push o }
theorem pushed_old (w : World) (o : Obj) {b : Nat} (hb : b < w.heap.size) : (pushed w o).heap[b]? = w.heap[b]? := by
 show (w.heap.push o)[b]? = _
 rw [Array.getElem?_push, if_neg (by omega)]
theorem pushed_new (w : World) (o : Obj) : (pushed w o).heap[w.heap.size]? = some o := by
 show (w.heap.push o)[w.heap.size]? = _
 simp
theorem Evo.pushed (w : World) (A O O' : Nat → Prop) (o : Obj) (hO : ∀ b, O' b → O b ∨ w.heap.size ≤ b) : Evo w A O (pushed w o) A O' where
 size := by simp [Bu.pushed]
 os := rfl
 tape := rfl
 output := rfl
 keep b hb _ := pushed_old w o hb
 cells b c e fz h := ⟨c, fz, by
  rw [pushed_old w o]; exact h
  exact (Array.getElem?_eq_some_iff.1 h).1, rfl⟩
 stay _ h := h
 Anew _ h := .inl h
 Onew := hO
theorem Done.new (h : Rel C N D S ρ A a w) {e : Eff} {res : Result Next} {v : Value} {o : Obj} {id : Nat} {k : Blk} {t : AV} (hf : memb S.seen id = false)
  (hres : res = .ok (.value v) (pushed w o)) (hw : e.wr = [(id, k)]) (hd : memb e.dead id = false)
  (hk : ∀ ρ', ρ' id = some ⟨w.heap.size, t⟩ → (∀ i l, ρ i = some l → ρ' i = some l) → Keeps w A ρ (pushed w o) A ρ' → BlkRel (pushed w o) A ρ' w.heap.size k ∧ (∀ t', k = .c t' → SameShape t t') ∧ RT (pushed w o) A ρ' e.v v) : Done S ρ A w e res := by
 have hfr : ∀ l, ρ id ≠ some l := fun l hl => by have := (h.rb id l hl).2; rw [hf] at this; cases this
 have hnone : look S.hp id = none := by
  cases hl : look S.hp id with
  | none => rfl
  | some k' => have := h.sn id (by rw [hl]; simp); rw [hf] at this; cases this
 obtain ⟨ρ', hρ⟩ : ∃ ρ' : Ren, ρ' = fun i => if i = id then some ⟨w.heap.size, t⟩ else ρ i := ⟨_, rfl⟩
 have hid : ρ' id = some ⟨w.heap.size, t⟩ := by simp [hρ]
 have hother : ∀ i, i ≠ id → ρ' i = ρ i := fun i hi => by simp [hρ, hi]
 have hext : ∀ i l, ρ i = some l → ρ' i = some l := fun i l hl => by rw [hother i fun e => hfr l (e ▸ hl)]; exact hl
 have hhid : look (hpAfter S.hp e) id = some k := by simp [hpAfter, hw, hd, putAll, look_dropAll, look_put]
 have hh : ∀ i k', i ≠ id → look (hpAfter S.hp e) i = some k' → look S.hp i = some k' := fun i k' hi hk' => by
  simp only [hpAfter, hw, putAll, look_dropAll, look_put] at hk'
  split at hk'
  ·cases hk'
  ·rwa [if_neg (Ne.symm hi)] at hk'
 have hne : ∀ i, i ≠ id → look (hpAfter S.hp e) i ≠ none → look S.hp i ≠ none := fun i hi hn => by
  cases hl : look (hpAfter S.hp e) i with
  | none => exact absurd hl hn
  | some k' => rw [hh i k' hi hl]; simp
 have hO : ∀ b, own ρ' (hpAfter S.hp e) b → own ρ S.hp b ∨ w.heap.size ≤ b := by
  rintro b ⟨i, l, h1, h2, rfl⟩
  by_cases ei : i = id
  ·subst ei; rw [hid] at h2; cases h2; exact .inr (Nat.le_refl _)
  ·rw [hother i ei] at h2; exact .inl ⟨i, l, hne i ei h1, h2, rfl⟩
 have evo : Evo w A (own ρ S.hp) (Bu.pushed w o) A (own ρ' (hpAfter S.hp e)) := .pushed w A _ _ o hO
 have kp := h.keeps evo hext
 obtain ⟨hb, hsh, hv⟩ := hk ρ' hid hext kp
 have hold : ∀ i l, i ≠ id → ρ' i = some l → l.b < w.heap.size := fun i l hi hl => (h.rb i l (by rwa [hother i hi] at hl)).1
 refine ⟨_, v, ρ', A, _, hres, .inl rfl, hv, ⟨fun i k' hk' => ?_, fun i i' l l' h1 h2 h3 h4 hb => ?_, fun i l h1 h2 => ?_⟩, hext, fun i l hl => ?_, fun b hb => Nat.lt_of_lt_of_le (h.Ab b hb) evo.size, fun i hi => ?_, evo⟩
 ·by_cases ei : i = id
  ·subst ei; rw [hhid] at hk'; cases hk'
   exact .inl ⟨_, hid, hb, hsh⟩
  ·have hk2 := hh i k' ei hk'
   rcases h.hp.blk i k' hk2 with ⟨l, h1, h2, h3⟩ | ⟨h1, h2⟩
   ·refine .inl ⟨l, hext i l h1, ?_, h3⟩
    cases k' with
    | m => exact h2.elim
    | c t' =>
     obtain ⟨cs, el, fz, vs, rest, e1, e2, e3, e4, e5⟩ := h2
     exact ⟨cs, el, fz, vs, rest, by rw [pushed_old w o (h.rb i l h1).1]; exact e1, e2, e3, e4.keep kp, e5⟩
   ·exact .inr ⟨by rw [hother i ei]; exact h1, h2⟩
 ·by_cases ei : i = id <;> by_cases ei' : i' = id
  ·rw [ei, ei']
  ·subst ei; rw [hid] at h3; cases h3; have := hold i' l' ei' h4; have hb' : w.heap.size = l'.b := hb; omega
  ·subst ei'; rw [hid] at h4; cases h4; have := hold i l ei h3; have hb' : l.b = w.heap.size := hb; omega
  ·rw [hother i ei] at h3; rw [hother i' ei'] at h4
   exact h.hp.inj i i' l l' (hne i ei h1) (hne i' ei' h2) h3 h4 hb
 ·by_cases ei : i = id
  ·subst ei; rw [hid] at h2; cases h2; intro hA; have := h.Ab _ hA; simp at this
  ·rw [hother i ei] at h2; exact h.hp.apart i l (hne i ei h1) h2
 ·by_cases ei : i = id
  ·subst ei; rw [hid] at hl; cases hl; exact ⟨by simp [Bu.pushed], memb_addSeen.2 (.inr ⟨k, by simp [hw]⟩)⟩
  ·rw [hother i ei] at hl; obtain ⟨h1, h2⟩ := h.rb i l hl; exact ⟨Nat.lt_of_lt_of_le h1 evo.size, memb_addSeen.2 (.inl h2)⟩
 ·by_cases ei : i = id
  ·subst ei; exact memb_addSeen.2 (.inr ⟨k, by simp [hw]⟩)
  ·exact memb_addSeen.2 (.inl (h.sn i (hne i ei hi)))
def setBlk (w : World) (b : Nat) (o : Obj) : World := { w with heap := w.heap.setIfInBounds b o }
theorem setBlk_same {w : World} {b : Nat} {o o' : Obj} (h : w.heap[b]? = some o') : (setBlk w b o).heap[b]? = some o := by
 have hb := (Array.getElem?_eq_some_iff.1 h).1
 simp [setBlk, hb]
theorem setBlk_setBlk (w : World) (b : Nat) (o o' : Obj) : setBlk (setBlk w b o) b o' = setBlk w b o' := by simp [setBlk]
theorem setBlk_other {w : World} {b b' : Nat} {o : Obj} (h : b' ≠ b) : (setBlk w b o).heap[b']? = w.heap[b']? := by
 simp [setBlk, Array.getElem?_setIfInBounds_ne (Ne.symm h)]
theorem Evo.set (w : World) (A O O' : Nat → Prop) {b : Nat} {cs cs' : Array Value} {el : TypeId} {fz : Nat × Nat} (hb : w.heap[b]? = some (.cells cs el fz)) (hs : cs'.size = cs.size) (ho : O b) (hO : ∀ b, O' b → O b ∨ w.heap.size ≤ b) :
  Evo w A O (setBlk w b (.cells cs' el fz)) A O' where
 size := by simp [setBlk]
 os := rfl
 tape := rfl
 output := rfl
 keep b' _ hn := setBlk_other fun e => hn (e ▸ ho)
 cells b' c e fz' h := by
  by_cases eb : b' = b
  ·subst eb
   rw [hb] at h; cases h
   exact ⟨cs', fz, setBlk_same hb, hs⟩
  ·exact ⟨c, fz', by rw [setBlk_other eb]; exact h, rfl⟩
 stay _ h := h
 Anew _ h := .inl h
 Onew := hO
theorem run_store_block (P : Program) {b o : Nat} {el : TypeId} {fz : Nat × Nat} : ∀ (us : List Value) (i : Nat) {w : World} {cs : Array Value} (pre old post : List Value), w.heap[b]? = some (.cells cs el fz) → (fz.1 = fz.2 ∨ cs.size ≤ fz.1) →
  cs.toList = pre ++ (old ++ post) → pre.length = o + i → old.length = us.length → (∀ v ∈ us, nota v = true) →
  ∃ cs' : Array Value, (storeCells ⟨b, o, none⟩ us i).run P w = .ok () (setBlk w b (.cells cs' el fz)) ∧ cs'.toList = pre ++ (us ++ post)
 | [], i, w, cs, pre, old, post, hb, hf, hcs, hp, ho, hn => by
  obtain rfl : old = [] := List.eq_nil_of_length_eq_zero (by simpa using ho)
  refine ⟨cs, ?_, by simpa using hcs⟩
  have : setBlk w b (.cells cs el fz) = w := by
   have hlt := (Array.getElem?_eq_some_iff.1 hb).1
   have he := (Array.getElem?_eq_some_iff.1 hb).2
   cases w
   simp only [setBlk] at *
   congr 1
   apply Array.ext_getElem?
   intro j
   by_cases ej : b = j
   ·subst ej; rw [hb]; simp [hlt]
   ·simp [Array.getElem?_setIfInBounds_ne ej]
  rw [this]
  rfl
 | v :: us, i, w, cs, pre, old, post, hb, hf, hcs, hp, ho, hn => by
  match old, ho with
  | u :: old, ho =>
   have hsz : cs.size = (pre ++ ((u :: old) ++ post)).length := by rw [← hcs]; simp
   have hlt : o + i < cs.size := by rw [hsz]; simp; omega
   have hcell : w.cell? ⟨b, o + i, none⟩ = some u := by
    have e : cs[o + i]? = some u := by
     rw [← Array.getElem?_toList, hcs, List.getElem?_append_right (by omega), hp]; simp
    simp [World.cell?, hb, e]
   have hfr : w.frozen? ⟨b, o + i, none⟩ = false := by
    simp only [World.frozen?, hb]
    have : ¬ (fz.1 ≤ o + i ∧ o + i < fz.2) := by omega
    simpa using this
   have hnv := hn v (by simp)
   have hst : (store ((⟨b, o, none⟩ : Addr).add i) v).run P w = .ok () (w.setCell ⟨b, o + i, none⟩ v) := by
    rw [addr_add, run_store P w _ v _ (by revert hnv; cases v <;> simp [nota, Value.oneCell'])]
    simp [hcell, hfr]
   have hset : w.setCell ⟨b, o + i, none⟩ v = setBlk w b (.cells (cs.setIfInBounds (o + i) v) el fz) := by
    simp only [World.setCell, setBlk]
    congr 1
    apply Array.ext_getElem?
    intro j
    have hbl := (Array.getElem?_eq_some_iff.1 hb).1
    by_cases ej : b = j
    ·subst ej; rw [Array.getElem?_modify, if_pos rfl, hb, Array.getElem?_setIfInBounds_self_of_lt hbl]; rfl
    ·rw [Array.getElem?_modify, if_neg ej, Array.getElem?_setIfInBounds_ne ej]
   have hcs2 : (cs.setIfInBounds (o + i) v).toList = (pre ++ [v]) ++ (old ++ post) := by
    rw [Array.toList_setIfInBounds, hcs, List.set_append_right _ _ (by omega), hp]
    simp
   obtain ⟨cs', hr, hc'⟩ := run_store_block P (b := b) (o := o) (el := el) (fz := fz) us (i + 1) (w := setBlk w b (.cells (cs.setIfInBounds (o + i) v) el fz)) (cs := cs.setIfInBounds (o + i) v) (pre ++ [v]) old post (setBlk_same hb)
    (by simpa using hf) hcs2 (by simp; omega) (by simpa using ho) (fun x hx => hn x (List.mem_cons_of_mem _ hx))
   refine ⟨cs', ?_, by simpa using hc'⟩
   rw [setBlk_setBlk] at hr
   simp only [storeCells, Sem.run_bind, hst, Result.andThen_ok, hset, hr]
theorem Rep.nota {w : World} {A : Nat → Prop} {ρ : Ren} {x : AV} {vs : List Value} (h : Rep w A ρ x vs) : ∀ v ∈ vs, nota v = true := by
 have fl : ∀ (n : Nat) (g : Nat → List Value), (∀ i, i < n → ∀ v ∈ g i, Bu.nota v = true) → ∀ v ∈ flat n g, Bu.nota v = true := by
  intro n g
  induction n with
  | zero => intro _ v hv; cases hv
  | succ n ih =>
   intro h v hv
   rcases List.mem_append.1 hv with hv | hv
   ·exact ih (fun i hi => h i (by omega)) v hv
   ·exact h n (by omega) v hv
 induction h with
 | v h => intro v hv; simp at hv; subst hv; exact h
 | st g h e ih => subst e; exact fl _ _ fun i hi => by obtain ⟨x, hx⟩ := nth?_some hi; exact ih i x hx
 | arr g hl h e ih => subst e; exact fl _ _ ih
 | _ => intro v hv; simp at hv; subst hv; rfl
theorem Done.set (h : Rel C N D S ρ A a w) {e : Eff} {res : Result Next} {id : Nat} {l : Loc} {t t' : AV} {cs cs' : Array Value} {el : TypeId} {fz : Nat × Nat} {vs' rest : List Value} {nx : Next} {v : Value}
  (hl : look S.hp id = some (.c t)) (hρ : ρ id = some l) (hb : w.heap[l.b]? = some (.cells cs el fz)) (hfz : fz.1 = fz.2 ∨ (cs.size ≤ fz.1 ∧ row1 t = true)) (hs : cs'.size = cs.size)
  (hc : cs'.toList = vs' ++ rest) (hr : Rep w A ρ t' vs') (hnr : ∀ x, x ∈ rest → nota x = true) (hsh : SameShape t t') (h1r : row1 t = true → row1 t' = true)
  (hres : res = .ok nx (setBlk w l.b (.cells cs' el fz))) (hnx : nx = .value v ∨ (nx = .skip ∧ v = undef)) (hw : e.wr = [(id, .c t')]) (hd : e.dead = [])
  (hv : Keeps w A ρ (setBlk w l.b (.cells cs' el fz)) A ρ → RT (setBlk w l.b (.cells cs' el fz)) A ρ e.v v) : Done S ρ A w e res := by
 have hh : ∀ i, look (hpAfter S.hp e) i = if id = i then some (.c t') else look S.hp i := fun i => by simp [hpAfter, hw, hd, putAll, look_dropAll, memb, look_put]
 have hne : ∀ i, look (hpAfter S.hp e) i ≠ none → look S.hp i ≠ none := fun i hi => by
  rw [hh] at hi; split at hi
  ·rename_i ei; subst ei; rw [hl]; simp
  ·exact hi
 have hO : ∀ b, own ρ (hpAfter S.hp e) b → own ρ S.hp b ∨ w.heap.size ≤ b := by
  rintro b ⟨i, l', h1, h2, rfl⟩; exact .inl ⟨i, l', hne i h1, h2, rfl⟩
 have evo : Evo w A (own ρ S.hp) (setBlk w l.b (.cells cs' el fz)) A (own ρ (hpAfter S.hp e)) := .set w A _ _ hb hs ⟨id, l, by rw [hl]; simp, hρ, rfl⟩ hO
 have kp := h.keeps evo fun _ _ h => h
 refine ⟨nx, v, ρ, A, _, hres, hnx, hv kp, ⟨fun i k' hk' => ?_, fun i i' l1 l2 h1 h2 => h.hp.inj i i' l1 l2 (hne i h1) (hne i' h2), fun i l1 h1 => h.hp.apart i l1 (hne i h1)⟩, fun _ _ h => h, fun i l1 hi => ?_, fun b hb => Nat.lt_of_lt_of_le (h.Ab b hb) evo.size, fun i hi => memb_addSeen.2 (.inl (h.sn i (hne i hi))), evo⟩
 ·rw [hh] at hk'
  split at hk'
  ·rename_i ei; subst ei; cases hk'
   refine .inl ⟨l, hρ, ⟨cs', el, fz, vs', rest, setBlk_same hb, hfz.imp_right fun q => ⟨by omega, h1r q.2⟩, hc, hr.keep kp, hnr⟩, fun t'' ht => ?_⟩
   cases ht
   rcases h.hp.blk id _ hl with ⟨l0, h1, _, h3⟩ | ⟨h1, _⟩
   ·rw [hρ] at h1; cases h1; exact (h3 t rfl).trans hsh
   ·rw [hρ] at h1; cases h1
  ·rename_i ei
   rcases h.hp.blk i k' hk' with ⟨l0, h1, h2, h3⟩ | h1
   ·refine .inl ⟨l0, h1, ?_, h3⟩
    have hb' : l0.b ≠ l.b := fun e => ei (h.hp.inj id i l l0 (by rw [hl]; simp) (by rw [hk']; simp) hρ h1 e.symm)
    cases k' with
    | m => exact h2.elim
    | c t0 =>
     obtain ⟨cs0, el0, fz0, vs0, rest0, e1, e2, e3, e4, e5⟩ := h2
     exact ⟨cs0, el0, fz0, vs0, rest0, by rw [setBlk_other hb']; exact e1, e2, e3, e4.keep kp, e5⟩
   ·exact .inr h1
 ·obtain ⟨h1, h2⟩ := h.rb i l1 hi
  exact ⟨Nat.lt_of_lt_of_le h1 evo.size, memb_addSeen.2 (.inl h2)⟩
end
end Go.Bu
namespace Go.Bu
section
variable {C : Ctx} {P : Program} {N : Nat} {D : Dom} {S : St} {ρ : Ren} {A : Nat → Prop} {a : Act} {w : World}
theorem off_nil (x : AV) : x.off [] = 0 := by cases x <;> rfl
theorem vp_nil (x : AV) : x.vp [] := by cases x <;> trivial
theorem RV.rt {x : AV} {v : Value} (h : RV w A ρ x v) : RT w A ρ x v := by
 unfold RT
 split
 ·rcases h with ⟨hl, _⟩ | ⟨_, vs, _, hr⟩
  ·cases hl
  ·cases hr
 ·exact h
theorem RT.rv {x : AV} {v : Value} (h : RT w A ρ x v) (hx : ∀ l, x ≠ .tup l) : RV w A ρ x v := by
 unfold RT at h
 split at h
 ·exact absurd rfl (hx _)
 ·exact h
theorem RV.of_leaf {x : AV} {v : Value} (hl : leaf x = true) (h : Rep w A ρ x [v]) : RT w A ρ x v := RV.rt (.inl ⟨hl, h⟩)
theorem RT.leaf {x : AV} {v : Value} (h : RT w A ρ x v) (hl : leaf x = true) : Rep w A ρ x [v] := by
 rcases h.rv (fun l e => by subst e; cases hl) with ⟨_, h⟩ | ⟨h, _⟩
 ·exact h
 ·rw [hl] at h; cases h
theorem RV.cells {x : AV} {v : Value} (h : RV w A ρ x v) : Rep w A ρ x v.cells.toList := by
 rcases h with ⟨hl, h⟩ | ⟨_, vs, rfl, h⟩
 ·have hn := h.nota v (by simp)
  have : v.cells = #[v] := by cases v <;> simp_all [Value.cells, nota]
  rw [this]; exact h
 ·simpa [Value.cells] using h
theorem Rel.val (h : Rel C N D S ρ A a w) {x : Operand} {y : AV} (hy : S.val C x = some y) : RT w A ρ y (a.eval x) := by
 cases x with
 | tmp t =>
  obtain ⟨v, hv, hr⟩ := h.tm t y hy
  simp only [Act.eval]
  rw [show a.tmps.getD t undef = v by simp [hv]]
  exact hr
 | const v =>
  simp only [St.val] at hy
  simp only [Act.eval]
  unfold constAV at hy
  split at hy
  ·cases hy; exact .of_leaf rfl (.dat0 fun _ => rfl)
  ·cases hy
  ·cases hy
  ·rename_i h1 h2 h3
   cases hy
   exact .of_leaf rfl (.v (by cases v <;> first | rfl | exact absurd rfl (h2 _) | exact absurd rfl (h3 _)))
 | global g =>
  simp only [St.val] at hy
  split at hy
  ·cases hy; exact (h.gl g _ (by assumption)).rt
  ·cases hy
 | func f =>
  simp only [St.val, Option.some.injEq] at hy
  subst hy
  exact .of_leaf rfl (.fn (f := .func f) [] rfl (fun i x hx => by cases i <;> cases hx) fun i x v hx => by cases i <;> cases hx)
theorem Rel.block (h : Rel C N D S ρ A a w) {id : Nat} {t : AV} (hl : look S.hp id = some (.c t)) {l : Loc} (hρ : ρ id = some l) :
  ∃ (cs : Array Value) (el : TypeId) (fz : Nat × Nat) (vs rest : List Value), w.heap[l.b]? = some (.cells cs el fz) ∧ (fz.1 = fz.2 ∨ (cs.size ≤ fz.1 ∧ row1 t = true)) ∧ cs.toList = vs ++ rest ∧ Rep w A ρ t vs ∧ SameShape l.t t ∧ ∀ x, x ∈ rest → nota x = true := by
 rcases h.hp.blk id _ hl with ⟨l0, h1, ⟨cs, el, fz, vs, rest, e1, e2, e3, e4, e5⟩, h3⟩ | ⟨h1, _⟩
 ·rw [hρ] at h1; cases h1
  exact ⟨cs, el, fz, vs, rest, e1, e2, e3, e4, h3 t rfl, e5⟩
 ·rw [hρ] at h1; cases h1
theorem cell_of {w : World} {b o : Nat} {cs : Array Value} {el : TypeId} {fz : Nat × Nat} {pre us post : List Value} (hb : w.heap[b]? = some (.cells cs el fz)) (hc : cs.toList = pre ++ (us ++ post)) (hp : pre.length = o) :
  ∀ j, j < us.length → w.cell? ⟨b, o + j, none⟩ = us[j]? := by
 intro j hj
 have e : cs[o + j]? = us[j]? := by
  rw [← Array.getElem?_toList, hc, List.getElem?_append_right (by omega), show o + j - pre.length = j by omega, List.getElem?_append_left hj]
 simp [World.cell?, hb, e]
def AllP (l : List Prop) : Prop := ∀ p, p ∈ l → p
theorem op_load (K : CtxOK C P) (h : Rel C N D S ρ A a w) {t : Nat} {x : Operand} {d : Nat} {i : Bool} {e : Eff} (he : opEff C S d i (.load t x) = some e) :
  Done S ρ A w e ((do pure (.value (← Instr.loadAt t (a.eval x))) : Sem Next).run P w) := by
 simp only [opEff] at he
 split at he
 ·rename_i y hy
  split at he
  ·rename_i hf
   cases he
   have hv := (h.val hy).leaf rfl
   generalize a.eval x = u at hv
   cases hv with
   | pd g ha hm hr =>
    obtain ⟨v, h1, h2⟩ := run_loadVar_rep (w := w) K hf hm (hr.lift ρ)
    exact Done.pure h (by simp [Instr.loadAt, Instr.sureAddr, h1]) h2.rt rfl rfl
  ·cases he
 ·rename_i id p hy
  split at he
  ·rename_i b hb
   split at he
   ·rename_i y hs
    split at he
    ·rename_i hf
     cases he
     have hv := (h.val hy).leaf rfl
     generalize a.eval x = u at hv
     cases hv with
     | ptr hρ hvp =>
      obtain ⟨cs, el, fz, vs, rest, e1, e2, e3, e4, e5, hnr⟩ := h.block hb hρ
      obtain ⟨pre, us, post, e6, e7, e8⟩ := e4.part p ((e5.vp p).1 hvp) hs
      have hm := cell_of (us := us) (post := post ++ rest) (o := _) e1 (by rw [e3, e6, List.append_assoc, List.append_assoc]) (e7.trans (e5.off p hvp).symm)
      obtain ⟨v, h1, h2⟩ := run_loadVar_rep (w := w) K hf hm e8
      exact Done.pure h (by simp [Instr.loadAt, Instr.sureAddr, h1]) h2.rt rfl rfl
    ·cases he
   ·cases he
  ·cases he
 ·cases he
theorem shapes_st : ∀ (fs gs : List AV), (∀ i x y, nth? fs i = some x → nth? gs i = some y → SameShape x y) → fs.length = gs.length → SameShape (.st fs) (.st gs) := by
 intro fs gs h hl
 have hpre : ∀ i, AV.pre fs i = AV.pre gs i := by
  induction fs generalizing gs with
  | nil => cases gs with
   | nil => intro i; rfl
   | cons _ _ => cases hl
  | cons x r ih => cases gs with
   | nil => cases hl
   | cons y q =>
    intro i
    cases i with
    | zero => rfl
    | succ i => simp only [AV.pre]; rw [(h 0 x y rfl rfl).size, ih q (fun i a b ha hb => h (i + 1) a b ha hb) (by simpa using hl) i]
 refine ⟨by simp only [AV.size, sizes_pre, hl, hpre], rfl, fun p => ?_, fun p hp => ?_⟩
 ·cases p with
  | nil => simp [AV.vp]
  | cons i p =>
   simp only [AV.vp]
   by_cases hi : i < fs.length
   ·obtain ⟨x, hx⟩ := nth?_some hi
    obtain ⟨y, hy⟩ := nth?_some (hl ▸ hi)
    rw [hx, hy]; exact (h i x y hx hy).vp p
   ·have h1 : nth? fs i = none := by rw [nth?_get]; exact List.getElem?_eq_none (by omega)
    have h2 : nth? gs i = none := by rw [nth?_get]; exact List.getElem?_eq_none (by omega)
    rw [h1, h2]
 ·cases p with
  | nil => rfl
  | cons i p =>
   simp only [AV.vp] at hp
   cases hx : nth? fs i with
   | none => rw [hx] at hp; exact hp.elim
   | some x =>
    rw [hx] at hp
    obtain ⟨y, hy⟩ := nth?_some (hl ▸ nth?_lt hx)
    simp only [AV.off, hx, hy, hpre, (h i x y hx hy).off p hp]
mutual
theorem shp_shape : ∀ (x y : AV), shp x y → SameShape x y
  | .st fs, y, h => by
    cases y with
    | st gs =>
      have := shps_shape fs gs h
      exact shapes_st fs gs this.1 this.2
    | _ => cases h.1
  | .arr n e f, y, h => by
    cases y with
    | arr n' e' g =>
      obtain ⟨rfl, rfl, h⟩ := h
      refine ⟨rfl, rfl, fun p => ?_, fun p hp => ?_⟩
      · cases p with
        | nil => simp [AV.vp]
        | cons i p => simp only [AV.vp]; exact and_congr_right fun hi => (shp_shape (f i) (g i) (h i hi)).vp p
      · cases p with
        | nil => rfl
        | cons i p => simp only [AV.vp] at hp; simp only [AV.off, (shp_shape (f i) (g i) (h i hp.1)).off p hp.2]
    | _ => cases h.1
  | .v x, y, h => by cases y <;> first | exact .of_leaf h.1 h.2 | cases h.2
  | .sb x, y, h => by cases y <;> first | exact .of_leaf h.1 h.2 | cases h.2
  | .dat _ _ _ _, y, h => by cases y <;> first | exact .of_leaf h.1 h.2 | cases h.2
  | .sl _ _ _ _ _ _ _, y, h => by cases y <;> first | exact .of_leaf h.1 h.2 | cases h.2
  | .ptr _ _, y, h => by cases y <;> first | exact .of_leaf h.1 h.2 | cases h.2
  | .pd _, y, h => by cases y <;> first | exact .of_leaf h.1 h.2 | cases h.2
  | .mp _, y, h => by cases y <;> first | exact .of_leaf h.1 h.2 | cases h.2
  | .fn _ _, y, h => by cases y <;> first | exact .of_leaf h.1 h.2 | cases h.2
  | .ifc _ _, y, h => by cases y <;> first | exact .of_leaf h.1 h.2 | cases h.2
  | .tup _, y, h => by cases y <;> cases h.1
theorem shps_shape : ∀ (fs gs : List AV), shp.shps fs gs → (∀ i x y, nth? fs i = some x → nth? gs i = some y → SameShape x y) ∧ fs.length = gs.length
  | [], [], _ => ⟨(fun i x y h => by cases i <;> cases h), rfl⟩
  | [], _ :: _, h => h.elim
  | _ :: _, [], h => h.elim
  | x :: r, y :: q, h => by
    obtain ⟨h1, h2⟩ := shps_shape r q h.2
    refine ⟨fun i u v hu hv => ?_, (by simp [h2])⟩
    cases i with
    | zero => cases hu; cases hv; exact shp_shape x y h.1
    | succ i => exact h1 i u v hu hv
end
theorem row1_leaf {x : AV} (h : leaf x = true) : row1 x = false := by cases x <;> simp_all [row1, leaf]
theorem shp_row1 : ∀ (x y : AV), shp x y → row1 x = true → row1 y = true
 | x, y, h, h1 => by
  unfold row1 at h1
  split at h1
  ·cases y <;> first
    | (obtain ⟨_, rfl, _⟩ := h; rfl)
    | cases h.1
  ·cases h1
theorem upd_row1 (p : List Nat) {t x t' v : AV} (hs : t.sub p = some x) (hu : t.upd p v = some t') (h : row1 x = true → row1 v = true) (h1 : row1 t = true) : row1 t' = true := by
 cases p with
 | nil =>
  have e : t = x := by cases t <;> simpa [AV.sub] using hs
  have e' : v = t' := by cases t <;> simpa [AV.upd] using hu
  rw [← e']; exact h (e ▸ h1)
 | cons i p =>
  unfold row1 at h1
  split at h1
  ·simp only [AV.upd] at hu
   split at hu
   ·cases hu; rfl
   ·cases hu
  ·cases h1
theorem op_store (K : CtxOK C P) (h : Rel C N D S ρ A a w) {t : Nat} {x y : Operand} {d : Nat} {i : Bool} {e : Eff} (he : opEff C S d i (.store t x y) = some e) (hob : AllP e.ob) :
  Done S ρ A w e ((do Instr.storeAt t (a.eval x) (a.eval y); pure .skip : Sem Next).run P w) := by
 simp only [opEff] at he
 split at he
 ·rename_i id p v hx hv
  split at he
  ·rename_i b hb
   split at he
   ·rename_i y0 b' hs hu hf
    cases he
    have hsh : SameShape y0 v := by
     cases h1 : leaf y0 <;> cases h2 : leaf v <;> simp only [h1, h2] at hob <;> first
      | exact .of_leaf h1 h2
      | exact shp_shape _ _ (hob _ (by simp))
    have hrow1 : row1 y0 = true → row1 v = true := by
     cases h1 : leaf y0 <;> cases h2 : leaf v <;> simp only [h1, h2] at hob <;> first
      | exact fun h3 => absurd h3 (by rw [row1_leaf h1]; decide)
      | exact shp_row1 _ _ (hob _ (by simp))
    have hp := (h.val hx).leaf rfl
    have hval : RV w A ρ v (a.eval y) := (h.val hv).rv fun l e => by subst e; unfold fitsT at hf; split at hf <;> simp_all
    generalize a.eval x = ux at hp
    generalize a.eval y = uy at hval
    cases hp with
    | ptr hρ hvp =>
     rename_i l
     obtain ⟨cs, el, fz, vs, rest, e1, e2, e3, e4, e5, hnr⟩ := h.block hb hρ
     obtain ⟨pre, us, post, e6, e7, e8, e9, e10⟩ := Rep.set hval.cells p e4 ((e5.vp p).1 hvp) hs hu hsh
     obtain ⟨cs', h1, h2⟩ := run_store_block P (o := l.t.off p) uy.cells.toList 0 pre us (post ++ rest) e1 (e2.imp_right And.left) (by rw [e3, e6]; simp) (by rw [e7, e5.off p hvp]; simp) e8 hval.cells.nota
     have hsz : (uy.cells.size : Nat) = (C.tt t).size := by
      have := hval.cells.len
      rw [Array.length_toList] at this
      rw [this]
      exact fits_size hf
     refine Done.set h hb hρ e1 e2 ?_ (vs' := pre ++ (uy.cells.toList ++ post)) (rest := rest) (by rw [h2]; simp) e9 hnr e10 (upd_row1 p hs hu hrow1) (nx := .skip) (v := undef) ?_ (.inr ⟨rfl, rfl⟩) rfl rfl (fun _ => rt_undef _ _ _)
     ·have h3 := congrArg List.length h2; have h4 := congrArg List.length e3; rw [e6] at h4; simp at h3 h4; simp at e8; omega
     ·simp [Instr.storeAt, Instr.sureAddr, storeVar, run_sizeOf K (fits_known hf), hsz, h1]
   ·cases he
  ·cases he
 ·cases he
end
end Go.Bu
namespace Go.Bu
section
variable {C : Ctx} {P : Program} {N : Nat} {D : Dom} {S : St} {ρ : Ren} {A : Nat → Prop} {a : Act} {w : World}
theorem kEq_iff {k k' : IntKind} : kEq k k' = true ↔ k = k' := by cases k <;> cases k' <;> simp [kEq, kN, Nat.beq]
theorem wrap_i64 {n : Int} (h : I64 n) : IntKind.wrap .i64 n = n := by
 unfold I64 at h
 simp only [IntKind.wrap, IntKind.bits, IntKind.signed]
 simp
 split <;> omega
theorem i64K_true {wr : Bool} {k : IntKind} (h : i64K wr k = true) : k = .i64 := by
 unfold i64K at h
 split at h
 ·cases h
 ·exact kEq_iff.1 h
theorem run_binI {wr : Bool} {op : BinOp} {k k' : IntKind} {x y : Int} {r : AV} {ob : List Prop} {t : Nat} (h : binI wr op k k' x y = some (r, ob)) (hob : AllP ob) :
    ∃ z, (binOp op t (.int k x) (.int k' y)).run P w = .ok z w ∧ RV w A ρ r z := by
  have mk : ∀ z : Value, leaf (.v z) = true := fun _ => rfl
  unfold binI at h
  cases op
  case shl => simp only [Option.some.injEq, Prod.mk.injEq] at h; obtain ⟨rfl, rfl⟩ := h; have h0 := Int.not_lt.2 (hob _ List.mem_cons_self); exact ⟨_, by simp [binOp, Op.shift, h0, bShl], .inl ⟨rfl, .v rfl⟩⟩
  case shr => simp only [Option.some.injEq, Prod.mk.injEq] at h; obtain ⟨rfl, rfl⟩ := h; have h0 := Int.not_lt.2 (hob _ List.mem_cons_self); exact ⟨_, by simp [binOp, Op.shift, h0, bShr], .inl ⟨rfl, .v rfl⟩⟩
  all_goals
    cases hk : kEq k k' with
    | false => simp [hk] at h
    | true =>
      simp only [hk] at h
      obtain rfl := kEq_iff.1 hk
      clear hk
      first
      | (cases hk6 : i64K wr k with
         | true =>
           simp only [hk6, Option.some.injEq, Prod.mk.injEq] at h
           obtain ⟨rfl, rfl⟩ := h
           obtain rfl := i64K_true hk6
           first
           | (have h0 := wrap_i64 (hob _ List.mem_cons_self); exact ⟨_, by simp [binOp, Op.intArith, h0], .inl ⟨rfl, .v rfl⟩⟩)
           | (have h0 : y ≠ 0 := hob _ List.mem_cons_self; have h1 := wrap_i64 (hob _ (List.mem_cons_of_mem _ List.mem_cons_self)); exact ⟨_, by simp [binOp, Op.intDiv, h0, h1], .inl ⟨rfl, .v rfl⟩⟩)
         | false =>
           simp only [hk6, Option.some.injEq, Prod.mk.injEq] at h
           obtain ⟨rfl, rfl⟩ := h
           first
           | (have h0 : y ≠ 0 := hob _ List.mem_cons_self; exact ⟨_, by simp [binOp, Op.intDiv, h0], .inl ⟨rfl, .v rfl⟩⟩)
           | exact ⟨_, by simp [binOp, Op.intArith], .inl ⟨rfl, .v rfl⟩⟩)
      | (cases hk6 : kEq k .i64 with
         | true =>
           simp only [hk6, Option.some.injEq, Prod.mk.injEq] at h
           obtain ⟨rfl, rfl⟩ := h
           obtain rfl := kEq_iff.1 hk6
           first
           | (have h0 := wrap_i64 (hob _ List.mem_cons_self); exact ⟨_, by simp [binOp, Op.intArith, h0], .inl ⟨rfl, .v rfl⟩⟩)
           | (have h0 : y ≠ 0 := hob _ List.mem_cons_self; have h1 := wrap_i64 (hob _ (List.mem_cons_of_mem _ List.mem_cons_self)); exact ⟨_, by simp [binOp, Op.intDiv, h0, h1], .inl ⟨rfl, .v rfl⟩⟩)
         | false =>
           simp only [hk6, Option.some.injEq, Prod.mk.injEq] at h
           obtain ⟨rfl, rfl⟩ := h
           first
           | (have h0 : y ≠ 0 := hob _ List.mem_cons_self; exact ⟨_, by simp [binOp, Op.intDiv, h0], .inl ⟨rfl, .v rfl⟩⟩)
           | exact ⟨_, by simp [binOp, Op.intArith], .inl ⟨rfl, .v rfl⟩⟩)
      | (simp only [Option.some.injEq, Prod.mk.injEq] at h
         obtain ⟨rfl, rfl⟩ := h
         first
         | (have h0 : y ≠ 0 := hob _ List.mem_cons_self; exact ⟨_, by simp [binOp, Op.intDiv, h0], .inl ⟨rfl, .v rfl⟩⟩)
         | exact ⟨_, by simp [binOp, Op.intBits, bAnd, bOr, bXor, bAndNot], .inl ⟨rfl, .v rfl⟩⟩
         | exact ⟨_, by simp [binOp, Op.intCmp], .inl ⟨rfl, .sb⟩⟩
         | exact ⟨_, by simp [binOp, Op.intCmp]; rfl, .inl ⟨rfl, .sb⟩⟩)
theorem run_binS {op : BinOp} {x y : ByteArray} {r : AV} {ob : List Prop} {t : Nat} (h : binS op x y = some (r, ob)) (hob : AllP ob) :
  ∃ z, (binOp op t (.string x) (.string y)).run P w = .ok z w ∧ RV w A ρ r z := by
 unfold binS at h
 cases op <;> simp only [Option.some.injEq, Prod.mk.injEq, reduceCtorEq] at h <;> (try obtain ⟨rfl, rfl⟩ := h)
 case add =>
  have := hob _ List.mem_cons_self
  refine ⟨_, ?_, .inl ⟨rfl, .v rfl⟩⟩
  simp only [binOp, Op.stringOp]
  rw [if_neg (by simp only [IntKind.max, IntKind.bits, IntKind.signed]; simp; simp at this; omega)]
  rfl
 case eql => exact ⟨_, by simp [binOp, Op.stringOp], .inl ⟨rfl, .sb⟩⟩
 case neq => exact ⟨_, by simp [binOp, Op.stringOp], .inl ⟨rfl, .sb⟩⟩
theorem rep_v {x v : Value} (h : Rep w A ρ (.v x) [v]) : v = x := by cases h; rfl
theorem rep_sb {b : Bool} {v : Value} (h : Rep w A ρ (.sb b) [v]) : v = .bool b := by cases h; rfl
theorem op_move (h : Rel C N D S ρ A a w) {x : Operand} {d : Nat} {i : Bool} {e : Eff} (he : opEff C S d i (.move x) = some e) :
  Done S ρ A w e ((pure (.value (a.eval x)) : Sem Next).run P w) := by
 simp only [opEff] at he
 split at he
 ·rename_i v hv; cases he; exact Done.pure h rfl (h.val hv) rfl rfl
 ·cases he
theorem op_pick (h : Rel C N D S ρ A a w) {c x y : Operand} {d : Nat} {i : Bool} {e : Eff} (he : opEff C S d i (.pick c x y) = some e) :
  Done S ρ A w e ((do pure (.value (if ← asBool (a.eval c) then a.eval x else a.eval y)) : Sem Next).run P w) := by
 simp only [opEff] at he
 split at he
 ·rename_i b hb
  have hc := rep_v ((h.val hb).leaf rfl)
  cases b <;> simp only at he <;> split at he <;> first
   | (cases he; rename_i v hv; exact Done.pure h (by simp [hc, asBool]) (h.val hv) rfl rfl)
   | cases he
 ·cases he
theorem done_var (h : Rel C N D S ρ A a w) {id : Nat} {x : AV} {z : Value} {ty : TypeId} (hf : memb S.seen id = false) (hz : RV w A ρ x z) :
  Done S ρ A w { v := .ptr id [], wr := [(id, .c x)] } (.ok (.value (.pointer (some ⟨w.heap.size, 0, none⟩))) (pushed w (.cells z.cells ty))) := by
 refine Done.new h hf rfl rfl rfl (t := x) fun ρ' hid hext kp => ⟨⟨z.cells, ty, (0, 0), z.cells.toList, [], pushed_new _ _, .inl rfl, by simp, (hz.keep kp).cells, fun _ h => by cases h⟩, fun t' ht => by cases ht; exact .refl _, .of_leaf rfl ?_⟩
 have := Rep.ptr (w := pushed w (.cells z.cells ty)) (A := A) hid (vp_nil x)
 simpa [off_nil] using this
theorem op_alloc (K : CtxOK C P) (h : Rel C N D S ρ A a w) {t d : Nat} {i : Bool} {e : Eff} (he : opEff C S d i (.alloc t) = some e) :
  Done S ρ A w e ((do pure (.value (← Instr.alloc t true (.tuple #[]))) : Sem Next).run P w) := by
 simp only [opEff] at he
 split at he
 ·rename_i id hid hk
  cases he
  obtain ⟨z, h1, h2⟩ := run_zero (w := w) K hk
  have := done_var h (ty := t) (newId_fresh hid) (h2 w A ρ)
  simpa [Instr.alloc, h1, newVar, newRow, pushed] using this
 ·cases he
theorem op_box (h : Rel C N D S ρ A a w) {t : Nat} {x : Operand} {d : Nat} {i : Bool} {e : Eff} (he : opEff C S d i (.box t x) = some e) :
  Done S ρ A w e ((do pure (.value (← Instr.box t (a.eval x))) : Sem Next).run P w) := by
 simp only [opEff] at he
 split at he
 ·cases he
 ·rename_i v hnt hv
  split at he
  ·cases he
  ·rename_i id hid
   cases he
   have := done_var h (ty := t) (newId_fresh hid) ((h.val hv).rv fun l e => hnt l e)
   simpa [Instr.box, newVar, newRow, pushed] using this
 ·cases he
theorem op_unOp (h : Rel C N D S ρ A a w) {o : UnOp} {t : Nat} {x : Operand} {d : Nat} {i : Bool} {e : Eff} (he : opEff C S d i (.unOp o t x) = some e) (hob : AllP e.ob) :
  Done S ρ A w e ((do pure (.value (← Op.unary o (a.eval x))) : Sem Next).run P w) := by
 simp only [opEff] at he
 split at he
 ·rename_i y hy
  unfold Eff.ofOb at he
  split at he
  ·rename_i v ob hu
   cases he
   unfold unAV at hu
   split at hu
   ·cases hu
    have hc := rep_v ((h.val hy).leaf rfl)
    exact Done.pure h (by simp [hc, Op.unary]) (.of_leaf rfl (.v rfl)) rfl rfl
   ·cases hu
    have hc := rep_sb ((h.val hy).leaf rfl)
    exact Done.pure h (by simp [hc, Op.unary]) (.of_leaf rfl .sb) rfl rfl
   ·rename_i k n
    have hc := rep_v ((h.val hy).leaf rfl)
    cases hk : kEq k .i64 with
    | true =>
     simp only [hk] at hu
     cases hu
     obtain rfl := kEq_iff.1 hk
     have h0 := wrap_i64 (hob _ List.mem_cons_self)
     exact Done.pure h (v := .int .i64 (0 - n)) (by simp only [hc, Op.unary, Op.intArith, h0]; rfl) (.of_leaf rfl (.v rfl)) rfl rfl
    | false =>
     simp only [hk] at hu
     cases hu
     exact Done.pure h (v := .int k (k.wrap (0 - n))) (by simp [hc, Op.unary, Op.intArith]) (.of_leaf rfl (.v rfl)) rfl rfl
   ·cases hu
    have hc := rep_v ((h.val hy).leaf rfl)
    exact Done.pure h (by simp only [hc, Op.unary, Op.intBits]; rfl) (.of_leaf rfl (.v rfl)) rfl rfl
   ·cases hu
  ·cases he
 ·cases he
theorem op_nilCheck (h : Rel C N D S ρ A a w) {x : Operand} {d : Nat} {i : Bool} {e : Eff} {o : Oper} (ho : o.op = .nilCheck x) (he : opEff C S d i (.nilCheck x) = some e) :
  Done S ρ A w e ((execOp a.eval o).run P w) := by
 simp only [opEff] at he
 split at he
 ·rename_i y hy
  cases he
  have hv := (h.val hy).leaf rfl
  refine Done.pure h (v := a.eval x) ?_ (h.val hy) rfl rfl
  simp only [execOp, ho]
  generalize a.eval x = u at hv
  cases hv; rfl
 ·rename_i id p hy
  cases he
  have hv := (h.val hy).leaf rfl
  refine Done.pure h (v := a.eval x) ?_ (h.val hy) rfl rfl
  simp only [execOp, ho]
  generalize a.eval x = u at hv
  cases hv; rfl
 ·rename_i f l hy
  cases he
  have hv := (h.val hy).leaf rfl
  refine Done.pure h (v := a.eval x) ?_ (h.val hy) rfl rfl
  simp only [execOp, ho]
  generalize a.eval x = u at hv
  cases hv; rfl
 ·cases he
theorem op_makeInterface (K : CtxOK C P) (h : Rel C N D S ρ A a w) {t : Nat} {x : Operand} {d : Nat} {i : Bool} {e : Eff} (he : opEff C S d i (.makeInterface t x) = some e) :
  Done S ρ A w e ((do pure (.value (← Instr.makeInterface t (a.eval x))) : Sem Next).run P w) := by
 simp only [opEff] at he
 split at he
 ·cases he
 ·rename_i y hy hni
  split at he
  ·rename_i hf
   cases he
   have htd := K.td t
   have hr : RV w A ρ y (a.eval x) := (h.val hy).rv fun l e => by subst e; unfold fitsT at hf; split at hf <;> simp_all
   have hkn := fits_known hf
   have hrun : (Instr.makeInterface t (a.eval x)).run P w = .ok (.iface t (a.eval x)) w := by
    unfold Instr.makeInterface
    cases hd : (C.tt t).d <;> simp only [hd, tdOK] at htd <;> first
     | (simp [run_underlying htd]; done)
     | (obtain ⟨_, htd, _⟩ := htd; simp [run_underlying htd]; done)
     | (obtain ⟨_, _, _, htd⟩ := htd; simp [run_underlying htd]; done)
     | (exact absurd hd hni)
     | (rw [hd] at hkn; cases hkn)
   refine Done.pure h (v := .iface t (a.eval x)) (by simp [hrun]) ?_ rfl rfl
   rcases hr with ⟨hl, hr⟩ | ⟨hl, vs, e1, hr⟩
   ·exact .of_leaf rfl (.ifc1 hl hr)
   ·rw [e1]; exact .of_leaf rfl (.ifcA hl hr)
  ·cases he
 ·cases he
theorem leaves_iff {l : List AV} (h : leaves l = true) : ∀ i y, nth? l i = some y → leaf y = true := by
 induction l with
 | nil => intro i y hy; cases i <;> cases hy
 | cons x r ih =>
  simp only [leaves] at h
  split at h
  ·intro i y hy
   cases i with
   | zero => cases hy; assumption
   | succ i => exact ih h i y hy
  ·cases h
theorem Rel.vals (h : Rel C N D S ρ A a w) : ∀ {xs : List Operand} {l : List AV}, valL C S xs = some l → l.length = xs.length ∧ ∀ i y v, nth? l i = some y → nth? (xs.map a.eval) i = some v → RT w A ρ y v
 | [], l, hl => by simp [valL] at hl; subst hl; exact ⟨rfl, fun i y v hy => by cases i <;> cases hy⟩
 | x :: r, l, hl => by
  simp only [valL] at hl
  split at hl
  ·rename_i y l' hy hl'
   cases hl
   obtain ⟨h1, h2⟩ := h.vals hl'
   refine ⟨by simp [h1], fun i z v hz hv => ?_⟩
   cases i with
   | zero => cases hz; cases hv; exact h.val hy
   | succ i => exact h2 i z v hz hv
  ·cases hl
theorem op_makeFunc (h : Rel C N D S ρ A a w) {f : Fn} {fi ca : Array Operand} {d : Nat} {i : Bool} {e : Eff} (he : opEff C S d i (.makeFunc f fi ca) = some e) :
  Done S ρ A w e ((do pure (.value (← Instr.makeFunc f (fi.map a.eval) (ca.map a.eval))) : Sem Next).run P w) := by
 simp only [opEff] at he
 split at he
 ·rename_i l hf hv
  split at he
  ·rename_i hl
   cases he
   obtain ⟨h1, h3⟩ := h.vals hv
   have hfi : fi = #[] := by apply Array.toList_inj.1; simpa using hf
   have hm : ca.map a.eval = (ca.toList.map a.eval).toArray := by apply Array.ext'; simp
   exact Done.pure h (v := .func f #[] ((ca.toList.map a.eval).toArray)) (by simp [Instr.makeFunc, hfi, hm]) (.of_leaf rfl (.fn (ca.toList.map a.eval) (by simp [h1]) (leaves_iff hl)
    fun i y v hy hv => (h3 i y v hy hv).leaf (leaves_iff hl i y hy))) rfl rfl
  ·cases he
 ·cases he
theorem op_extract (h : Rel C N D S ρ A a w) {x : Operand} {ix d : Nat} {i : Bool} {e : Eff} (he : opEff C S d i (.extract x ix) = some e) :
  Done S ρ A w e ((do pure (.value (← Instr.extract (a.eval x) ix)) : Sem Next).run P w) := by
 simp only [opEff] at he
 split at he
 ·rename_i l hl
  split at he
  ·rename_i y hy
   cases he
   obtain ⟨vs, h1, h2, h3⟩ := h.val hl
   obtain ⟨u, hu⟩ := nth?_some (l := vs) (h2 ▸ nth?_lt hy)
   exact Done.pure h (v := u) (by rw [h1]; rw [nth?_get] at hu; simp [Instr.extract, hu]) (h3 ix y u hy hu).rt rfl rfl
  ·cases he
 ·cases he
theorem run_part (K : CtxOK C P) {t o : Nat} {x : AV} {cs : Array Value} {pre us post : List Value} (hf : fitsT C t x = true) (hc : cs.toList = pre ++ (us ++ post)) (hp : pre.length = o) (hr : Rep w A ρ x us) :
  ∃ v, (part t cs o).run P w = .ok v w ∧ RV w A ρ x v := by
 have ha := run_isAgg (w := w) K hf
 have hlen := hr.len
 unfold part
 cases hl : leaf x with
 | true =>
  rw [size_leaf hl] at hlen
  match us, hlen with
  | [v], _ =>
   have e : cs[o]? = some v := by rw [← Array.getElem?_toList, hc, List.getElem?_append_right (by omega)]; simp [hp]
   exact ⟨v, by simp [ha, hl, e], .inl ⟨hl, hr⟩⟩
 | false =>
  have hs := run_sizeOf (w := w) K (fits_known hf)
  rw [← fits_size hf, ← hlen] at hs
  have e : cs.extract o (o + us.length) = us.toArray := by
   apply Array.ext'
   rw [Array.toList_extract, List.extract_eq_take_drop, hc, List.drop_append, List.drop_eq_nil_of_le (by omega)]
   simp [hp]
  exact ⟨.agg us.toArray, by simp [ha, hl, hs, e], .inr ⟨hl, us, rfl, hr⟩⟩
end
end Go.Bu
namespace Go.Bu
theorem sub_vp : ∀ (p : List Nat) {t x : AV}, t.sub p = some x → ∀ q, t.vp p → (t.vp (p ++ q) ↔ x.vp q)
 | [], t, x, h, q, _ => by
  have e : t = x := by cases t <;> simpa [AV.sub] using h
  subst e; rfl
 | i :: p, t, x, h, q, hv => by
  cases t with
  | st fs =>
   simp only [AV.sub] at h
   simp only [AV.vp] at hv
   cases hy : nth? fs i with
   | none => rw [hy] at h; cases h
   | some y =>
    simp only [hy] at h hv
    simp only [List.cons_append, AV.vp, hy]
    exact sub_vp p h q hv
  | arr n e f =>
   simp only [AV.sub] at h
   simp only [AV.vp] at hv
   simp only [List.cons_append, AV.vp, hv.1, true_and]
   exact sub_vp p h q hv.2
  | _ => simp [AV.vp] at hv
theorem sub_off : ∀ (p : List Nat) {t x : AV}, t.sub p = some x → ∀ q, t.vp p → t.off (p ++ q) = t.off p + x.off q
 | [], t, x, h, q, _ => by
  have e : t = x := by cases t <;> simpa [AV.sub] using h
  subst e; simp [off_nil]
 | i :: p, t, x, h, q, hv => by
  cases t with
  | st fs =>
   simp only [AV.sub] at h
   simp only [AV.vp] at hv
   cases hy : nth? fs i with
   | none => rw [hy] at h; cases h
   | some y =>
    simp only [hy] at h hv
    simp only [List.cons_append, AV.off, hy, sub_off p h q hv, Nat.add_assoc]
  | arr n e f =>
   simp only [AV.sub] at h
   simp only [AV.vp] at hv
   simp only [List.cons_append, AV.off, sub_off p h q hv.2, Nat.add_assoc]
  | _ => simp [AV.vp] at hv
section
variable {C : Ctx} {P : Program} {N : Nat} {D : Dom} {S : St} {ρ : Ren} {A : Nat → Prop} {a : Act} {w : World}
theorem field_of (K : CtxOK C P) {t i ft o : Nat} {gs : List (Nat × Nat)} (hd : (C.tt t).d = .struct gs) (hg : nth? gs i = some (ft, o)) :
  ∃ (fields : Array Field) (f : Field), P.underlying t = some (.struct fields) ∧ fields[i]? = some f ∧ f.type = ft ∧ f.offset = o := by
 have htd := K.td t
 rw [hd] at htd
 obtain ⟨fields, h1, h2, _⟩ := htd
 rw [← h2, nth?_get, List.getElem?_map] at hg
 cases hf : fields.toList[i]? with
 | none => rw [hf] at hg; cases hg
 | some f =>
  rw [hf] at hg
  simp at hg
  exact ⟨fields, f, h1, by rw [← Array.getElem?_toList]; exact hf, hg.1, hg.2⟩
theorem st_part {w : World} {A : Nat → Prop} {ρ : Ren} {fs : List AV} {i : Nat} {y : AV} {vs : List Value} (h : Rep w A ρ (.st fs) vs) (hy : nth? fs i = some y) :
  ∃ pre us post, vs = pre ++ (us ++ post) ∧ pre.length = AV.pre fs i ∧ Rep w A ρ y us := by
 have := Rep.part [i] h (by simp [AV.vp, hy]) (x := y) (by simp [AV.sub, hy])
 simpa [AV.off, hy, off_nil] using this
theorem op_field (K : CtxOK C P) (h : Rel C N D S ρ A a w) {t i d : Nat} {x : Operand} {b : Bool} {e : Eff} (he : opEff C S d b (.field t x i) = some e) :
  Done S ρ A w e ((do pure (.value (← Instr.field t (a.eval x) i)) : Sem Next).run P w) := by
 simp only [opEff] at he
 split at he
 ·rename_i fs gs hx hd
  split at he
  ·rename_i y ft o hy hg
   split at he
   ·rename_i hp hf
    cases he
    obtain ⟨fields, f, h1, h2, h3, h4⟩ := field_of K hd hg
    have hr : RV w A ρ (.st fs) (a.eval x) := (h.val hx).rv fun l e => by cases e
    rcases hr with ⟨hl, _⟩ | ⟨_, vs, e1, hr⟩
    ·cases hl
    ·obtain ⟨pre, us, post, e2, e3, e4⟩ := st_part hr hy
     obtain ⟨v, h5, h6⟩ := run_part (w := w) (cs := vs.toArray) K hf (by simpa using e2) (e3.trans (beq_iff.1 hp)) e4
     refine Done.pure h (v := v) ?_ h6.rt rfl rfl
     simp [Instr.field, run_underlying h1, h2, e1, asAgg, h3, h4, h5]
   ·cases he
  ·cases he
 ·cases he
theorem op_fieldAddr (K : CtxOK C P) (h : Rel C N D S ρ A a w) {t i d : Nat} {x : Operand} {b : Bool} {e : Eff} (he : opEff C S d b (.fieldAddr t x i) = some e) :
  Done S ρ A w e ((do pure (.value (← Instr.fieldAt t (a.eval x) i)) : Sem Next).run P w) := by
 have run : ∀ {gs : List (Nat × Nat)} {ft o b o' : Nat} {y : AV}, (C.tt t).d = .struct gs → nth? gs i = some (ft, o) → fitsT C ft y = true → Nat.beq y.size 0 = false →
   (Instr.fieldAt t (.pointer (some ⟨b, o', none⟩)) i).run P w = .ok (.pointer (some ⟨b, o' + o, none⟩)) w := by
  intro gs ft o b o' y hd hg hf hz
  obtain ⟨fields, f, h1, h2, h3, h4⟩ := field_of K hd hg
  have hs := run_sizeOf (w := w) K (fits_known hf)
  have hne : (C.tt ft).size ≠ 0 := by
   rw [← fits_size hf]; intro e; rw [e] at hz; cases hz
  simp [Instr.fieldAt, run_underlying h1, h2, Instr.sureAddr, fieldPlace, h3, hs, hne, h4, addr_add]
 simp only [opEff] at he
 split at he
 ·rename_i fs gs hx hd
  split at he
  ·rename_i y ft o hy hg
   split at he
   ·rename_i hp hf hz
    cases he
    have hv := (h.val hx).leaf rfl
    generalize a.eval x = u at hv
    cases hv with
    | pd g ha hm hr =>
     rename_i bb oo
     obtain ⟨pre, us, post, e2, e3, e4⟩ := st_part hr hy
     refine Done.pure h (by simp [run hd hg hf hz]) (.of_leaf rfl (.pd (b := bb) (o := oo + o) us ha (fun j hj => ?_) e4)) rfl rfl
     have hlen := congrArg List.length e2
     simp at hlen
     have e5 := beq_iff.1 hp
     rw [Nat.add_assoc, hm (o + j) (by omega), e2, List.getElem?_append_right (by omega), show o + j - pre.length = j by omega, List.getElem?_append_left hj]
   ·cases he
  ·cases he
 ·rename_i id p gs hx hd
  split at he
  ·rename_i t0 hb
   split at he
   ·rename_i fs hs
    split at he
    ·rename_i y ft o hy hg
     split at he
     ·rename_i hp hf hz
      cases he
      have hv := (h.val hx).leaf rfl
      generalize a.eval x = u at hv
      cases hv with
      | ptr hρ hvp =>
       obtain ⟨cs, el, fz, vs, rest, e1, e2, e3, e4, e5, hnr⟩ := h.block hb hρ
       have hvp' := (e5.vp p).1 hvp
       have h1 := (sub_vp p hs [i] hvp').2 (by simp [AV.vp, hy])
       have h2 := sub_off p hs [i] hvp'
       simp only [AV.off, hy, Nat.add_zero, beq_iff.1 hp] at h2
       have h3 := (e5.vp (p ++ [i])).2 h1
       have := Rep.ptr (w := w) (A := A) hρ h3
       rw [e5.off _ h3, h2, ← e5.off p hvp] at this
       exact Done.pure h (by simp [run hd hg hf hz]) (.of_leaf rfl this) rfl rfl
     ·cases he
    ·cases he
   ·cases he
  ·cases he
 ·cases he
theorem rep_int {k : IntKind} {n : Int} {v : Value} (h : RT w A ρ (.v (.int k n)) v) : v = .int k n := rep_v (h.leaf rfl)
theorem op_indexAddr (K : CtxOK C P) (h : Rel C N D S ρ A a w) {t d : Nat} {x y : Operand} {b : Bool} {e : Eff} (he : opEff C S d b (.indexAddr t x y) = some e) (hob : AllP e.ob) :
  Done S ρ A w e ((do pure (.value (← Instr.indexAt t (a.eval x) (a.eval y))) : Sem Next).run P w) := by
 have runS : ∀ {et n c b o : Nat} {i : Int} {k : IntKind}, (C.tt t).d = .slice et → (C.tt et).d.known = true → 0 ≤ i ∧ i < n →
   (Instr.indexAt t (.slice (some ⟨b, o, none⟩) n c) (.int k i)).run P w = .ok (.pointer (some ⟨b, o + i.toNat * (C.tt et).size, none⟩)) w := by
  intro et n c b o i k hd hk hi
  have htd := K.td t
  rw [hd] at htd
  simp [Instr.indexAt, asIntOf, run_underlying htd, run_sizeOf K hk, hi, addr_add]
 have runA : ∀ {et m b o : Nat} {s : Bool} {i : Int} {k : IntKind}, (C.tt t).d = .array m et s → (C.tt et).d.known = true → 0 ≤ i ∧ i < m →
   (Instr.indexAt t (.pointer (some ⟨b, o, none⟩)) (.int k i)).run P w = .ok (.pointer (some ⟨b, o + i.toNat * (C.tt et).size, none⟩)) w := by
  intro et m b o s i k hd hk hi
  have htd := K.td t
  rw [hd] at htd
  simp only [tdOK] at htd
  simp [Instr.indexAt, asIntOf, run_underlying htd, run_sizeOf K hk, hi, addr_add, Instr.sureAddr]
 simp only [opEff] at he
 split at he
 ·-- data
  rename_i n ex e0 f k i et hx hy hd
  split at he
  ·rename_i he0 hk
   cases he
   have hi : 0 ≤ i ∧ i < n := hob _ List.mem_cons_self
   have e0' := beq_iff.1 he0
   have hyv := rep_int (h.val hy)
   have hv := (h.val hx).leaf rfl
   generalize a.eval x = u at hv
   cases hv with
   | dat0 => simp at hi; omega
   | dat g ha hc hex hl hm hr =>
    rename_i bb oo cc
    have hin : i.toNat < n := by omega
    refine Done.pure h (by simp [hyv, runS hd hk hi]) (.of_leaf rfl (.pd (b := bb) (o := oo + i.toNat * (C.tt et).size) (g i.toNat) ha (fun j hj => ?_) (hr _ hin))) rfl rfl
    rw [← e0', Nat.add_assoc]
    exact hm _ _ hin (by rw [hl _ hin] at hj; exact hj)
  ·cases he
 ·-- own
  rename_i id p o n c ex e0 k i et hx hy hd
  split at he
  ·rename_i he0 hk
   cases he
   have hi : 0 ≤ i ∧ i < n := hob _ List.mem_cons_self
   have e0' := beq_iff.1 he0
   have hyv := rep_int (h.val hy)
   have hv := (h.val hx).leaf rfl
   generalize a.eval x = u at hv
   cases hv with
   | sl0 => simp at hi; omega
   | sl hρ h1 h2 h3 h4 h5 =>
    have hrow := h4 (o + i.toNat) (by omega)
    have := Rep.ptr (w := w) (A := A) hρ hrow.1
    rw [hrow.2, Nat.add_mul, ← Nat.add_assoc] at this
    exact Done.pure h (by simp [hyv, runS hd hk hi, ← e0']) (.of_leaf rfl this) rfl rfl
  ·cases he
 ·-- an array that nothing writes
  rename_i n e0 f k i m et s hx hy hd
  split at he
  ·rename_i he0 hnm hk
   cases he
   have hi : 0 ≤ i ∧ i < n := hob _ List.mem_cons_self
   have e0' := beq_iff.1 he0
   obtain rfl := beq_iff.1 hnm
   have hyv := rep_int (h.val hy)
   have hv := (h.val hx).leaf rfl
   generalize a.eval x = u at hv
   cases hv with
   | pd g ha hm hr =>
    rename_i bb oo
    obtain ⟨pre, us, post, e2, e3, e4⟩ := Rep.part [i.toNat] hr (x := f i.toNat) (by simp [AV.vp]; omega) (by simp [AV.sub])
    simp only [AV.off, Nat.add_zero] at e3
    refine Done.pure h (by simp [hyv, runA hd hk hi]) (.of_leaf rfl (.pd (b := bb) (o := oo + i.toNat * (C.tt et).size) us ha (fun j hj => ?_) e4)) rfl rfl
    have hlen := congrArg List.length e2
    simp at hlen
    rw [Nat.add_assoc, ← e0', hm _ (by omega), e2, List.getElem?_append_right (by omega), show i.toNat * e0 + j - pre.length = j by omega, List.getElem?_append_left hj]
  ·cases he
 ·-- .. by its list
  rename_i fs k i m et s hx hy hd
  split at he
  ·rename_i y0 hy0 hpre hnm hk
   cases he
   have h0 : 0 ≤ i := hob _ List.mem_cons_self
   obtain rfl := beq_iff.1 hnm
   have hi : 0 ≤ i ∧ i < (fs.length : Nat) := by have := nth?_lt hy0; omega
   have hyv := rep_int (h.val hy)
   have hv := (h.val hx).leaf rfl
   generalize a.eval x = u at hv
   cases hv with
   | pd g ha hm hr =>
    rename_i bb oo
    obtain ⟨pre, us, post, e2, e3, e4⟩ := st_part hr hy0
    rw [beq_iff.1 hpre] at e3
    refine Done.pure h (by simp [hyv, runA hd hk hi]) (.of_leaf rfl (.pd (b := bb) (o := oo + i.toNat * (C.tt et).size) us ha (fun j hj => ?_) e4)) rfl rfl
    have hlen := congrArg List.length e2
    simp at hlen
    rw [Nat.add_assoc, hm _ (by omega), e2, List.getElem?_append_right (by omega), show i.toNat * (C.tt et).size + j - pre.length = j by omega, List.getElem?_append_left hj]
  ·cases he
 ·-- an array of the own memory
  rename_i id p k i m et s hx hy hd
  have hyv := rep_int (h.val hy)
  split at he
  ·rename_i t0 hb
   split at he
   ·rename_i n e0 f hs
    split at he
    ·rename_i he0 hnm hk
     cases he
     have hi : 0 ≤ i ∧ i < n := hob _ List.mem_cons_self
     have e0' := beq_iff.1 he0
     obtain rfl := beq_iff.1 hnm
     have hv := (h.val hx).leaf rfl
     generalize a.eval x = u at hv
     cases hv with
     | ptr hρ hvp =>
      obtain ⟨cs, el, fz, vs, rest, e1, e2, e3, e4, e5, hnr⟩ := h.block hb hρ
      have hvp' := (e5.vp p).1 hvp
      have h1 := (sub_vp p hs [i.toNat] hvp').2 (by simp [AV.vp]; omega)
      have h2 := sub_off p hs [i.toNat] hvp'
      simp only [AV.off, Nat.add_zero] at h2
      have h3 := (e5.vp (p ++ [i.toNat])).2 h1
      have := Rep.ptr (w := w) (A := A) hρ h3
      rw [e5.off _ h3, h2, ← e5.off p hvp] at this
      exact Done.pure h (by simp [hyv, runA hd hk hi, ← e0']) (.of_leaf rfl this) rfl rfl
    ·cases he
   ·rename_i fs hs
    split at he
    ·rename_i y0 hy0 hpre hnm hk
     cases he
     have h0 : 0 ≤ i := hob _ List.mem_cons_self
     obtain rfl := beq_iff.1 hnm
     have hi : 0 ≤ i ∧ i < (fs.length : Nat) := by have := nth?_lt hy0; omega
     have hv := (h.val hx).leaf rfl
     generalize a.eval x = u at hv
     cases hv with
     | ptr hρ hvp =>
      obtain ⟨cs, el, fz, vs, rest, e1, e2, e3, e4, e5, hnr⟩ := h.block hb hρ
      have hvp' := (e5.vp p).1 hvp
      have h1 := (sub_vp p hs [i.toNat] hvp').2 (by simp [AV.vp, hy0])
      have h2 := sub_off p hs [i.toNat] hvp'
      simp only [AV.off, hy0, Nat.add_zero, beq_iff.1 hpre] at h2
      have h3 := (e5.vp (p ++ [i.toNat])).2 h1
      have := Rep.ptr (w := w) (A := A) hρ h3
      rw [e5.off _ h3, h2, ← e5.off p hvp] at this
      exact Done.pure h (by simp [hyv, runA hd hk hi]) (.of_leaf rfl this) rfl rfl
    ·cases he
   ·cases he
  ·cases he
 ·cases he
end
end Go.Bu

