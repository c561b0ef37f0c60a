/- The operations of a region, in any order that keeps those apart that meet. -/
import Derived.Test.YtoaefniopgmoaaaDoorK5
import Derived.Orders
import Derived.OrdersIn
import Derived.RangeFuncLeaves
import Derived.RangeFuncRecord
namespace Go.Bu
structure Rc where
  S : St
  kn : List (Nat × Bool)
  e : Eff
  did : Bool
inductive Run (C : Ctx) (P : Program) (D : Dom) (W : Way) (all : List Oper) : List Oper → St → List (Nat × Bool) → List Rc → St → List (Nat × Bool) → Prop
  | nil {S kn} : Run C P D W all [] S kn [] S kn
  | act {o r S kn e rs S' kn'} : guardOf all S kn o = .yes → dstOK W.nt o.dst = true → Acts C P D W o (S.know kn) e → Run C P D W all r (S.apply o.dst e) (forget kn o.dst) rs S' kn' → Run C P D W all (o :: r) S kn (⟨S, kn, e, true⟩ :: rs) S' kn'
  | skip {o r S kn rs S' kn'} : guardOf all S kn o = .no → dstOK W.nt o.dst = true → Run C P D W all r (S.apply o.dst skipEff) (forget kn o.dst) rs S' kn' → Run C P D W all (o :: r) S kn (⟨S, kn, skipEff, false⟩ :: rs) S' kn'
  | ask {o r S kn rs S' kn' t b want} : guardOf all S kn o = .ask t b want → Run C P D W all (o :: r) S ((t, b) :: kn) rs S' kn' → Run C P D W all (o :: r) S kn rs S' kn'
def KnOK (S : St) (kn : List (Nat × Bool)) : Prop := ∀ t b, look kn t = some b → look S.tm t = some (.sb b)
theorem guard_ask {all : List Oper} {S : St} {kn : List (Nat × Bool)} {o : Oper} {t : Nat} {b want : Bool} (h : guardOf all S kn o = .ask t b want) : look S.tm t = some (.sb b) := by
 have eqb : ∀ {x y : Bool} {t b w}, eqB x y ≠ .ask t b w := by intro x y t b w; cases x <;> cases y <;> simp [eqB]
 unfold guardOf at h
 split at h
 ·cases h
 ·split at h
  ·cases h
  ·split at h
   ·exact absurd h eqb
   ·split at h
    ·exact absurd h eqb
    ·cases h; assumption
    ·cases h
    ·cases h
theorem look_forget {kn : List (Nat × Bool)} {dst : Option Nat} {t : Nat} {b : Bool} (h : look (forget kn dst) t = some b) : look kn t = some b ∧ dst ≠ some t := by
 cases dst with
 | none => exact ⟨h, by simp⟩
 | some d =>
  simp only [forget, look_dropAll] at h
  split at h
  ·cases h
  ·rename_i hm
   exact ⟨h, fun e => by cases e; exact hm memb_head⟩
theorem KnOK.apply {S : St} {kn : List (Nat × Bool)} (h : KnOK S kn) (dst : Option Nat) (e : Eff) : KnOK (S.apply dst e) (forget kn dst) := fun t b hb => by
 obtain ⟨h1, h2⟩ := look_forget hb
 rw [look_tm, if_neg h2]
 exact h t b h1
theorem KnOK.ask {S : St} {kn : List (Nat × Bool)} (h : KnOK S kn) {t : Nat} {b : Bool} (ht : look S.tm t = some (.sb b)) : KnOK S ((t, b) :: kn) := fun t' b' hb => by
 simp only [look] at hb
 split at hb
 ·rename_i e; obtain rfl := beq_iff.1 e; cases hb; exact ht
 ·exact h t' b' hb
def effAt (rs : List Rc) (k : Nat) : Eff := match nth? rs k with | some r => r.e | none => skipEff
structure RcOK (C : Ctx) (P : Program) (D : Dom) (W : Way) (all : List Oper) (o : Oper) (r : Rc) : Prop where
  dst : dstOK W.nt o.dst = true
  kn : KnOK r.S r.kn
  how : (r.did = true ∧ guardOf all r.S r.kn o = .yes ∧ Acts C P D W o (r.S.know r.kn) r.e) ∨ (r.did = false ∧ guardOf all r.S r.kn o = .no ∧ r.e = skipEff)
section
variable {C : Ctx} {P : Program} {W : Way} {all : List Oper}
theorem run_len {D : Dom} {ops : List Oper} {S S' : St} {kn kn' : List (Nat × Bool)} {rs : List Rc} (h : Run C P D W all ops S kn rs S' kn') : rs.length = ops.length := by
 induction h with
 | nil => rfl
 | act _ _ _ _ ih => simp [ih]
 | skip _ _ _ ih => simp [ih]
 | ask _ _ ih => exact ih
theorem run_recs {D : Dom} {ops : List Oper} {S S' : St} {kn kn' : List (Nat × Bool)} {rs : List Rc} (h : Run C P D W all ops S kn rs S' kn') : KnOK S kn →
  KnOK S' kn' ∧ ∀ i o r, nth? ops i = some o → nth? rs i = some r → RcOK C P D W all o r := by
 induction h with
 | nil => exact fun hk => ⟨hk, fun i o r h => by cases i <;> cases h⟩
 | act hg hd ha _ ih =>
  intro hk
  obtain ⟨h1, h2⟩ := ih (hk.apply _ _)
  refine ⟨h1, fun i o r ho hr => ?_⟩
  cases i with
  | zero => cases ho; cases hr; exact ⟨hd, hk, .inl ⟨rfl, hg, ha⟩⟩
  | succ i => exact h2 i o r ho hr
 | skip hg hd _ ih =>
  intro hk
  obtain ⟨h1, h2⟩ := ih (hk.apply _ _)
  refine ⟨h1, fun i o r ho hr => ?_⟩
  cases i with
  | zero => cases ho; cases hr; exact ⟨hd, hk, .inr ⟨rfl, hg, rfl⟩⟩
  | succ i => exact h2 i o r ho hr
 | ask hg _ ih => exact fun hk => ih (hk.ask (guard_ask hg))
theorem run_behind {D : Dom} {S0 : St} {full : List Oper} {rf : List Rc} {ops : List Oper} {S S' : St} {kn kn' : List (Nat × Bool)} {rs : List Rc} (h : Run C P D W all ops S kn rs S' kn') : ∀ j, j + ops.length = full.length → (∀ k, nth? ops k = nth? full (j + k)) → (∀ k, nth? rs k = nth? rf (j + k)) →
  Behind S0 (dstAt full) (effAt rf) full.length (fun k => decide (k < j)) S →
  Behind S0 (dstAt full) (effAt rf) full.length (fun k => decide (k < full.length)) S' ∧ ∀ i r, nth? rs i = some r → Behind S0 (dstAt full) (effAt rf) full.length (fun k => decide (k < j + i)) r.S := by
 have step : ∀ {j : Nat} {S : St} {o : Oper} {e : Eff}, j < full.length → dstAt full j = o.dst → effAt rf j = e → Behind S0 (dstAt full) (effAt rf) full.length (fun k => decide (k < j)) S →
   Behind S0 (dstAt full) (effAt rf) full.length (fun k => decide (k < j + 1)) (S.apply o.dst e) := by
  intro j S o e hj hd he hb
  have := hb.step (i := j) hj (by simp) (fun k h1 _ _ _ _ => by simp; omega) (fun k h1 _ _ _ _ => by simp; omega)
  rw [hd, he] at this
  have hL : with1 (fun k => decide (k < j)) j = fun k => decide (k < j + 1) := by
   funext k
   simp only [with1]
   by_cases e : k = j
   ·subst e; simp
   ·rw [if_neg e]
    have : k < j ↔ k < j + 1 := by omega
    simp [this]
  rwa [hL] at this
 induction h with
 | nil =>
  intro j hj h1 h2 hb
  simp at hj
  subst hj
  exact ⟨hb, fun i r hr => by cases i <;> cases hr⟩
 | @act o r0 S kn e rs S' kn' hg hd ha _ ih =>
  intro j hj h1 h2 hb
  simp at hj
  have ho := h1 0
  have hr := h2 0
  simp only [nth?, Nat.add_zero] at ho hr
  obtain ⟨g1, g2⟩ := ih (j + 1) (by omega) (fun k => by have := h1 (k + 1); simp only [nth?] at this; rw [this]; congr 1; omega) (fun k => by have := h2 (k + 1); simp only [nth?] at this; rw [this]; congr 1; omega)
   (step (o := o) (by omega) (by simp [dstAt, ← ho]) (by simp [effAt, ← hr]) hb)
  refine ⟨g1, fun i r hri => ?_⟩
  cases i with
  | zero => cases hri; exact hb
  | succ i => have := g2 i r hri; rwa [show j + 1 + i = j + (i + 1) by omega] at this
 | @skip o r0 S kn rs S' kn' hg hd _ ih =>
  intro j hj h1 h2 hb
  simp at hj
  have ho := h1 0
  have hr := h2 0
  simp only [nth?, Nat.add_zero] at ho hr
  obtain ⟨g1, g2⟩ := ih (j + 1) (by omega) (fun k => by have := h1 (k + 1); simp only [nth?] at this; rw [this]; congr 1; omega) (fun k => by have := h2 (k + 1); simp only [nth?] at this; rw [this]; congr 1; omega)
   (step (o := o) (by omega) (by simp [dstAt, ← ho]) (by simp [effAt, ← hr]) hb)
  refine ⟨g1, fun i r hri => ?_⟩
  cases i with
  | zero => cases hri; exact hb
  | succ i => have := g2 i r hri; rwa [show j + 1 + i = j + (i + 1) by omega] at this
 | ask hg _ ih => exact ih
def guardSlot (all : List Oper) (o : Oper) : Option Nat :=
 match o.guard with
 | none => none
 | some (j, _) => dstAt all j
variable {N : Nat} {D : Dom} {S T : St} {ρ : Ren} {A : Nat → Prop} {a : Act} {w : World}
theorem rt_bool {b : Bool} {v : Value} (h : RT w A ρ (.sb b) v) : v = .bool b := rep_sb (h.leaf rfl)
theorem guard_wanted (h : Rel C N D T ρ A a w) {ops : Array Oper} {kn : List (Nat × Bool)} {o : Oper} (hk : KnOK S kn) (hag : ∀ t, guardSlot ops.toList o = some t → look T.tm t = look S.tm t) :
  (guardOf ops.toList S kn o = .yes → Region.wanted o (yielded ops a.tmps) = true) ∧ (guardOf ops.toList S kn o = .no → Region.wanted o (yielded ops a.tmps) = false) := by
 have eqb : ∀ {x y : Bool}, (eqB x y = .yes → x = y) ∧ (eqB x y = .no → x ≠ y) := by intro x y; cases x <;> cases y <;> simp [eqB]
 unfold guardOf Region.wanted
 cases hg : o.guard with
 | none => exact ⟨fun _ => rfl, fun h => by cases h⟩
 | some jw =>
  obtain ⟨j, want⟩ := jw
  dsimp only
  cases hs : dstAt ops.toList j with
  | none => exact ⟨fun (h : Gd.bad = Gd.yes) => (by cases h), fun (h : Gd.bad = Gd.no) => by cases h⟩
  | some t =>
   dsimp only
   have hag := hag t (by simp only [guardSlot, hg]; exact hs)
   have hj : ((ops[j]?).bind (·.dst)) = some t := by
    unfold dstAt at hs
    rw [nth?_get, Array.getElem?_toList] at hs
    cases ho : ops[j]? with
    | none => rw [ho] at hs; cases hs
    | some g => rw [ho] at hs; exact hs
   have hy : ∀ v, a.tmps[t]? = some v → yielded ops a.tmps j = match v with | .bool b => some b | _ => none := fun v hv => by
    unfold yielded
    rw [hj]
    simp only [Option.bind_some, hv]
    cases v <;> rfl
   cases hkt : look kn t with
   | some x =>
    simp only
    have ht := hk t x hkt
    rw [← hag] at ht
    obtain ⟨v, h1, h2⟩ := h.tm t _ ht
    have := hy v h1
    rw [rt_bool h2] at this
    simp only at this
    rw [this]
    refine ⟨fun h => by simp [eqb.1 h], fun h => by simpa using eqb.2 h⟩
   | none =>
    simp only
    cases hl : look S.tm t with
    | none => exact ⟨fun h => (by cases h), fun h => by cases h⟩
    | some y =>
     rw [← hag] at hl
     obtain ⟨v, h1, h2⟩ := h.tm t _ hl
     have hyv := hy v h1
     split
     ·rename_i x e
      cases e
      rw [rep_v (h2.leaf rfl)] at hyv
      simp only at hyv
      rw [hyv]
      refine ⟨fun h => by simp [eqb.1 h], fun h => by simpa using eqb.2 h⟩
     ·exact ⟨fun h => (by cases h), fun h => by cases h⟩
     ·rename_i e
      cases e
      obtain ⟨us, e1, _⟩ := h2
      rw [e1] at hyv
      simp only at hyv
      rw [hyv]
      exact ⟨fun h => (by cases h), fun _ => rfl⟩
     ·exact ⟨fun h => (by cases h), fun h => by cases h⟩
end
end Go.Bu
namespace Go.Bu
def tempsOf : List Operand → List Nat
 | [] => []
 | x :: r => match x with | .tmp t => t :: tempsOf r | _ => tempsOf r
def readsOf (all : List Oper) (o : Oper) : List Nat := tempsOf o.op.operands.toList ++ (match guardSlot all o with | some t => [t] | none => [])
def readsAt (all : List Oper) (k : Nat) : List Nat := match nth? all k with | some o => readsOf all o | none => []
def Conf (all : List Oper) (rs : List Rc) (k i : Nat) : Prop :=
 (∃ t, dstAt all k = some t ∧ (memb (readsAt all i) t = true ∨ dstAt all i = some t)) ∨ (∃ t, dstAt all i = some t ∧ memb (readsAt all k) t = true) ∨
 (∃ id, memb (effAt rs k).wrs id = true ∧ (memb (effAt rs i).rd id = true ∨ memb (effAt rs i).wrs id = true)) ∨ (∃ id, memb (effAt rs i).wrs id = true ∧ memb (effAt rs k).rd id = true) ∨
 inRow (slot (dstAt all i)) (keysOf (effAt rs k).wr) = true ∨ inRow (slot (dstAt all k)) (keysOf (effAt rs i).wr) = true
theorem Conf.symm {all : List Oper} {rs : List Rc} {k i : Nat} (h : Conf all rs k i) : Conf all rs i k := by
 rcases h with ⟨t, h1, h2 | h2⟩ | ⟨t, h1, h2⟩ | ⟨id, h1, h2 | h2⟩ | ⟨id, h1, h2⟩ | h | h
 ·exact .inr (.inl ⟨t, h1, h2⟩)
 ·exact .inl ⟨t, h2, .inr h1⟩
 ·exact .inl ⟨t, h1, .inl h2⟩
 ·exact .inr (.inr (.inr (.inl ⟨id, h1, h2⟩)))
 ·exact .inr (.inr (.inl ⟨id, h2, .inr h1⟩))
 ·exact .inr (.inr (.inl ⟨id, h1, .inl h2⟩))
 ·exact .inr (.inr (.inr (.inr (.inr h))))
 ·exact .inr (.inr (.inr (.inr (.inl h))))
theorem tempsOf_mem : ∀ {l : List Operand} {t : Nat}, Operand.tmp t ∈ l → memb (tempsOf l) t = true
 | [], t, h => by cases h
 | x :: r, t, h => by
  simp only [tempsOf]
  rcases List.mem_cons.1 h with rfl | h
  ·exact memb_head
  ·have := tempsOf_mem h
   split
   ·simp only [memb]; split <;> first | rfl | exact this
   ·exact this
section
variable {C : Ctx} {P : Program} {W : Way} {N : Nat} {D : Dom} {S S0 T : St} {ρ : Ren} {A : Nat → Prop} {a : Act} {w : World}
theorem look_know {tm : List (Nat × AV)} {kn : List (Nat × Bool)} {t : Nat} : look (know tm kn) t = match look kn t with | some b => some (.v (.bool b)) | none => look tm t := by
 induction kn with
 | nil => simp [know, look]
 | cons x r ih =>
  obtain ⟨k, b⟩ := x
  simp only [know, look_put, look, ih]
  by_cases e : k = t
  ·simp [e, Nat.beq_refl]
  ·simp [e, beq_false e]
structure Agree (all : List Oper) (rs : List Rc) (L : Nat → Bool) (i : Nat) : Prop where
  self : L i = false
  other : ∀ k, k < all.length → k ≠ i → Conf all rs k i → (L k = true ↔ k < i)
theorem agree_eq {all : List Oper} {rs : List Rc} {L : Nat → Bool} {i : Nat} (h : Agree all rs L i) : ∀ k, k < all.length → (k ≠ i → Conf all rs k i) → L k = decide (k < i) := fun k hk hc => by
 by_cases e : k = i
 ·subst e; simp [h.self]
 ·have := h.other k hk e (hc e)
  cases hL : L k with
  | true => have := this.1 hL; simp [this]
  | false =>
   have hn : ¬ k < i := fun hlt => by rw [this.2 hlt] at hL; cases hL
   simp [hn]
theorem region_step (K : CtxOK C P) (h : Rel C W.nt D T ρ A a w) {ops : Array Oper} {rs : List Rc} {L : Nat → Bool} {i : Nat} {o : Oper} {r : Rc} (ho : nth? ops.toList i = some o) (hr : nth? rs i = some r) (hrc : RcOK C P D W ops.toList o r)
  (hT : Behind S0 (dstAt ops.toList) (effAt rs) ops.toList.length L T) (hS : Behind S0 (dstAt ops.toList) (effAt rs) ops.toList.length (fun k => decide (k < i)) r.S) (hag : Agree ops.toList rs L i) (Q : Exit → Act → World → Prop)
  (Kk : Act → World → Prop) (hK : ∀ a' w' T' ρ' A', Behind S0 (dstAt ops.toList) (effAt rs) ops.toList.length (with1 L i) T' → Rel C W.nt D T' ρ' A' a' w' → Evo w A (own ρ T.hp) w' A' (own ρ' T'.hp) → (∀ id l, ρ id = some l → ρ' id = some l) → Kk a' w') :
  wpOpIn (FR D.round) 0 P ops Q i Kk a w := by
 have hi := nth?_lt ho
 have hdst : dstAt ops.toList i = o.dst := by simp [dstAt, ho]
 have heff : effAt rs i = r.e := by simp [effAt, hr]
 have hreads : readsAt ops.toList i = readsOf ops.toList o := by simp [readsAt, ho]
 -- slots that are looked at
 have eqT : ∀ t, memb (readsOf ops.toList o) t = true → look T.tm t = look r.S.tm t := fun t ht => by
  rw [hT.tm, hS.tm]
  exact lastT_congr fun k hk hd => agree_eq hag k hk fun _ => .inl ⟨t, hd, .inl (by rw [hreads]; exact ht)⟩
 have eqH : ∀ id, memb r.e.rd id = true → look T.hp id = look r.S.hp id := fun id hid => by
  rw [hT.hp, hS.hp]
  exact lastH_congr fun k hk hd => agree_eq hag k hk fun _ => .inr (.inr (.inl ⟨id, hd, .inl (by rw [heff]; exact hid)⟩))
 have eqS : ∀ j, memb T.seen (slot o.dst + 1000 * j) = memb r.S.seen (slot o.dst + 1000 * j) := fun j => by
  have : memb T.seen (slot o.dst + 1000 * j) = true ↔ memb r.S.seen (slot o.dst + 1000 * j) = true := by
   rw [hT.sn, hS.sn]
   have hc : ∀ k, k < ops.toList.length → memb (keysOf (effAt rs k).wr) (slot o.dst + 1000 * j) = true → L k = decide (k < i) := fun k hk hd => agree_eq hag k hk fun _ =>
    .inr (.inr (.inr (.inr (.inl (inRow_iff.2 ⟨_, hd, by rw [hdst]; omega⟩)))))
   constructor
   ·rintro (h | ⟨k, h1, h2, h3⟩)
    ·exact .inl h
    ·exact .inr ⟨k, h1, by rw [← hc k h1 h3]; exact h2, h3⟩
   ·rintro (h | ⟨k, h1, h2, h3⟩)
    ·exact .inl h
    ·exact .inr ⟨k, h1, by rw [hc k h1 h3]; exact h2, h3⟩
  cases hx : memb T.seen (slot o.dst + 1000 * j) <;> cases hy : memb r.S.seen (slot o.dst + 1000 * j) <;> simp [hx, hy] at this ⊢
 have hnext : Behind S0 (dstAt ops.toList) (effAt rs) ops.toList.length (with1 L i) (T.apply o.dst r.e) := by
  have := hT.step (i := i) hi hag.self (fun k h1 h2 t h3 h4 => ?_) (fun k h1 h2 id h3 h4 => ?_)
  ·rwa [hdst, heff] at this
  ·have := agree_eq hag k h2 fun _ => .inl ⟨t, h4, .inr h3⟩
   rw [this]; simp; omega
  ·have := agree_eq hag k h2 fun _ => .inr (.inr (.inl ⟨id, h4, .inr h3⟩))
   rw [this]; simp; omega
 have hgs : ∀ t, guardSlot ops.toList o = some t → look T.tm t = look r.S.tm t := fun t ht => eqT t (by
  unfold readsOf
  rw [ht]
  exact memb_append.2 (.inr memb_head))
 obtain ⟨g1, g2⟩ := guard_wanted h hrc.kn hgs
 have hoi : ops[i]? = some o := by rw [nth?_get, Array.getElem?_toList] at ho; exact ho
 have hd : ∀ d, o.dst = some d → d < W.nt := fun d hd => by
  have := hrc.dst
  rw [hd] at this
  exact Nat.le_of_ble_eq_true this
 unfold wpOpIn
 simp only [hoi]
 rcases hrc.how with ⟨_, h1, h2⟩ | ⟨_, h1, h2⟩
 ·rw [g1 h1, if_pos rfl]
  -- the state as it is looked at
  obtain ⟨T', hT'⟩ : ∃ T' : St, T' = { T with tm := keepOnly (know T.tm r.kn) (readsOf ops.toList o) } := ⟨_, rfl⟩
  have hR : Rel C W.nt D T' ρ A a w := by
   rw [hT']
   refine ⟨fun t x hx => ?_, h.nt, h.df, h.hp, h.Ab, h.rb, h.sn, h.gl⟩
   simp only [look_keepOnly] at hx
   split at hx
   ·rename_i hm
    rw [look_know] at hx
    cases hk : look r.kn t with
    | none => rw [hk] at hx; exact h.tm t x hx
    | some b =>
     rw [hk] at hx
     cases hx
     have ht := hrc.kn t b hk
     rw [← eqT t hm] at ht
     obtain ⟨v, q1, q2⟩ := h.tm t _ ht
     exact ⟨v, q1, by rw [rt_bool q2]; exact .of_leaf rfl (.v rfl)⟩
   ·cases hx
  have hA : Acts C P D W o T' r.e := by
   refine acts_congr h2 (fun x hx => ?_) (fun id hid => by rw [hT']; exact eqH id hid) (fun j => by rw [hT']; exact eqS j)
   cases x with
   | tmp t =>
    have hm : memb (readsOf ops.toList o) t = true := memb_append.2 (.inl (tempsOf_mem (by simpa using hx)))
    simp only [St.val, hT', look_keepOnly, hm, if_true, St.know, look_know]
    rw [eqT t hm]
   | const v => rfl
   | global g => rfl
   | func f => rfl
  refine acts_wp K hR hA Kk Q fun v w' hdn => ?_
  have hdn' : Done T ρ A w r.e (.ok (.value v) w') := by
   have e1 : T'.hp = T.hp := by rw [hT']
   have e2 : T'.seen = T.seen := by rw [hT']
   unfold Done at hdn ⊢
   rw [e1, e2] at hdn
   exact hdn
  obtain ⟨nx, v2, ρ', A', w2, q1, q2, q3, q4, q5⟩ := hdn'.rel h o.dst hd
  cases q1
  have hv : v2 = v := by
   rcases q2 with q2 | ⟨q2, _⟩
   ·cases q2; rfl
   ·cases q2
  subst hv
  exact hK _ _ _ ρ' A' hnext q3 q4 q5
 ·rw [g2 h1, if_neg (by simp)]
  have hput := h.put o.dst hd (rt_undef w A ρ)
  have e1 : ∀ (l : List (Nat × Blk)), dropAll l [] = l := fun l => by
   induction l with
   | nil => rfl
   | cons x r ih => obtain ⟨k, y⟩ := x; simp [dropAll, memb, ih]
  have e2 : T.apply o.dst r.e = { T with tm := withTm T o.dst (.tup []) } := by
   rw [h2]
   simp only [St.apply, skipEff, putAll, addSeen, e1, withTm]
  rw [e2] at hnext
  exact ⟨fun _ _ => trivial, hK _ _ _ ρ A hnext hput (.refl _ _ _) fun _ _ h => h⟩
end
end Go.Bu
namespace Go.Bu
def tconf (all : List Oper) (a b : Oper) : Bool :=
 match a.dst, b.dst with
 | none, none => false
 | some x, none => memb (readsOf all b) x
 | none, some y => memb (readsOf all a) y
 | some x, some y => Nat.beq x y || memb (readsOf all b) x || memb (readsOf all a) y
def statTail (all : List Oper) (i : Nat) (a : Oper) : List Oper → List (List Nat) → Bool
 | b :: r, c :: q => match memb c i with
  | true => statTail all i a r q
  | false => match tconf all a b with | true => false | false => statTail all i a r q
 | _, _ => true
def statOK (all : List Oper) : Nat → List Oper → List (List Nat) → Bool
 | i, a :: r, _ :: q => match statTail all i a r q with | true => statOK all (i + 1) r q | false => false
 | _, _, _ => true
def edgesOK : Nat → List Oper → Bool
 | _, [] => true
 | i, o :: r => match o.after.toList.all (fun e => !Region.binds .any e || Nat.ble (e.on + 1) i) with | true => edgesOK (i + 1) r | false => false
def regionOK (ops : List Oper) : Bool := match edgesOK 0 ops, statOK ops 0 ops (befores ops []) with | true, true => true | _, _ => false
def codeOK : Code → Bool
 | .region _ ops draws => match draws with | true => regionOK ops.toList | false => true
 | .seq a b => match codeOK a with | true => codeOK b | false => false
 | .cond _ a b => match codeOK a with | true => codeOK b | false => false
 | .block _ b => codeOK b
 | .loop b => codeOK b
 | _ => true
inductive Before (all : List Oper) : Nat → Nat → Prop
  | edge {j o} {e : Edge} : nth? all j = some o → e ∈ o.after.toList → Region.binds .any e = true → Before all j e.on
  | more {j o k} {e : Edge} : nth? all j = some o → e ∈ o.after.toList → Region.binds .any e = true → Before all e.on k → Before all j k
theorem unite_mem {k : Nat} : ∀ {q l : List Nat}, memb (unite q l) k = true → memb q k = true ∨ memb l k = true
 | [], l, h => .inr h
 | x :: r, l, h => by
  simp only [unite] at h
  have hx : ∀ {l : List Nat}, memb (x :: l) k = true → x = k ∨ memb l k = true := fun h => by
   simp only [memb] at h
   split at h
   ·rename_i hk; exact .inl (beq_iff.1 hk)
   ·exact .inr h
  have hy : ∀ {l : List Nat}, memb l k = true → memb (x :: l) k = true := fun h => by
   simp only [memb]
   split
   ·rfl
   ·exact h
  split at h
  ·rcases unite_mem h with h1 | h1
   ·exact .inl (hy h1)
   ·exact .inr h1
  ·rcases unite_mem h with h1 | h1
   ·exact .inl (hy h1)
   ·rcases hx h1 with h2 | h2
    ·left
     subst h2
     simp [memb, Nat.beq_refl]
    ·exact .inr h2
theorem addAll_mem {acc : List (List Nat)} {k : Nat} : ∀ {es : List Edge} {l : List Nat}, memb (befores.addAll es acc l) k = true → memb l k = true ∨ ∃ e ∈ es, Region.binds .any e = true ∧ ∃ q, nth? acc e.on = some q ∧ (k = e.on ∨ memb q k = true)
 | [], l, h => .inl h
 | e :: r, l, h => by
  simp only [befores.addAll] at h
  split at h
  ·rename_i q hb hq
   rcases addAll_mem h with h1 | ⟨e', h1, h2⟩
   ·rcases unite_mem h1 with h1 | h1
    ·simp only [memb] at h1
     split at h1
     ·rename_i hk; exact .inr ⟨e, List.mem_cons_self, hb, q, hq, .inl (beq_iff.1 hk).symm⟩
     ·exact .inr ⟨e, List.mem_cons_self, hb, q, hq, .inr h1⟩
    ·exact .inl h1
   ·exact .inr ⟨e', List.mem_cons_of_mem _ h1, h2⟩
  ·rcases addAll_mem h with h1 | ⟨e', h1, h2⟩
   ·exact .inl h1
   ·exact .inr ⟨e', List.mem_cons_of_mem _ h1, h2⟩
theorem befores_spec {all : List Oper} : ∀ (r : List Oper) (acc : List (List Nat)), (∀ k, nth? r k = nth? all (acc.length + k)) → (∀ j q k, nth? acc j = some q → memb q k = true → Before all j k) →
  (befores r acc).length = acc.length + r.length ∧ ∀ j q k, nth? (befores r acc) j = some q → memb q k = true → Before all j k
 | [], acc, hr, ha => ⟨rfl, ha⟩
 | o :: r, acc, hr, ha => by
  simp only [befores]
  have ho : nth? all acc.length = some o := by have := hr 0; simp only [nth?, Nat.add_zero] at this; exact this.symm
  obtain ⟨h1, h2⟩ := befores_spec r (acc ++ [befores.addAll o.after.toList acc []]) (fun k => by
   have := hr (k + 1)
   simp only [nth?] at this
   rw [this]
   congr 1
   simp
   omega) (fun j q k hj hk => by
   rw [nth?_append] at hj
   split at hj
   ·exact ha j q k hj hk
   ·rename_i hn
    have hj0 : j = acc.length := by
     have := nth?_lt hj
     simp at this
     omega
    subst hj0
    simp [nth?] at hj
    subst hj
    rcases addAll_mem hk with h | ⟨e, he, hb, q, hq, h⟩
    ·simp [memb] at h
    ·rcases h with rfl | h
     ·exact .edge ho he hb
     ·exact .more ho he hb (ha _ _ _ hq h))
  exact ⟨by rw [h1]; simp; omega, h2⟩
theorem statTail_spec {all : List Oper} {i : Nat} {a : Oper} : ∀ {r : List Oper} {q : List (List Nat)}, statTail all i a r q = true → ∀ j b c, nth? r j = some b → nth? q j = some c → memb c i = true ∨ tconf all a b = false
 | [], q, h, j, b, c, hb, hc => by cases j <;> cases hb
 | x :: r, [], h, j, b, c, hb, hc => by cases j <;> cases hc
 | x :: r, y :: q, h, j, b, c, hb, hc => by
  simp only [statTail] at h
  split at h
  ·rename_i hm
   cases j with
   | zero => cases hb; cases hc; exact .inl hm
   | succ j => exact statTail_spec h j b c hb hc
  ·split at h
   ·cases h
   ·rename_i ht
    cases j with
    | zero => cases hb; cases hc; exact .inr ht
    | succ j => exact statTail_spec h j b c hb hc
theorem statOK_spec {all : List Oper} : ∀ {r : List Oper} {q : List (List Nat)} {i0 : Nat}, statOK all i0 r q = true → ∀ i j a b c, i < j → nth? r i = some a → nth? r j = some b → nth? q j = some c → memb c (i0 + i) = true ∨ tconf all a b = false
 | [], q, i0, h, i, j, a, b, c, hij, ha, hb, hc => by cases i <;> cases ha
 | x :: r, [], i0, h, i, j, a, b, c, hij, ha, hb, hc => by cases j <;> cases hc
 | x :: r, y :: q, i0, h, i, j, a, b, c, hij, ha, hb, hc => by
  simp only [statOK] at h
  split at h
  ·rename_i ht
   cases j with
   | zero => omega
   | succ j =>
    cases i with
    | zero => cases ha; exact statTail_spec ht j b c hb hc
    | succ i =>
     have := statOK_spec h i j a b c (by omega) ha hb hc
     rwa [show i0 + 1 + i = i0 + (i + 1) by omega] at this
  ·cases h
theorem ordTail_spec {i d : Nat} {e : Eff} : ∀ {r : List Oper} {q : List Eff} {c : List (List Nat)}, ordTail i d e r q c = true → ∀ j o f b, nth? r j = some o → nth? q j = some f → nth? c j = some b → memb b i = true ∨ free2 e f d (slot o.dst) = true
 | [], q, c, h, j, o, f, b, ho, hf, hb => by cases j <;> cases ho
 | x :: r, [], c, h, j, o, f, b, ho, hf, hb => by cases j <;> cases hf
 | x :: r, y :: q, [], h, j, o, f, b, ho, hf, hb => by cases j <;> cases hb
 | x :: r, y :: q, z :: c, h, j, o, f, b, ho, hf, hb => by
  simp only [ordTail] at h
  split at h
  ·rename_i hm
   cases j with
   | zero => cases ho; cases hf; cases hb; exact .inl hm
   | succ j => exact ordTail_spec h j o f b ho hf hb
  ·split at h
   ·rename_i ht
    cases j with
    | zero => cases ho; cases hf; cases hb; exact .inr ht
    | succ j => exact ordTail_spec h j o f b ho hf hb
   ·cases h
theorem ordOK_spec : ∀ {r : List Oper} {q : List Eff} {c : List (List Nat)} {i0 : Nat}, ordOK i0 r q c = true → ∀ i j a b e f d, i < j → nth? r i = some a → nth? r j = some b → nth? q i = some e → nth? q j = some f → nth? c j = some d → memb d (i0 + i) = true ∨ free2 e f (slot a.dst) (slot b.dst) = true
 | [], q, c, i0, h, i, j, a, b, e, f, d, hij, ha, hb, he, hf, hd => by cases i <;> cases ha
 | x :: r, [], c, i0, h, i, j, a, b, e, f, d, hij, ha, hb, he, hf, hd => by cases i <;> cases he
 | x :: r, y :: q, [], i0, h, i, j, a, b, e, f, d, hij, ha, hb, he, hf, hd => by cases j <;> cases hd
 | x :: r, y :: q, z :: c, i0, h, i, j, a, b, e, f, d, hij, ha, hb, he, hf, hd => by
  simp only [ordOK] at h
  split at h
  ·rename_i ht
   cases j with
   | zero => omega
   | succ j =>
    cases i with
    | zero => cases ha; cases he; exact ordTail_spec ht j b f d hb hf hd
    | succ i =>
     have := ordOK_spec h i j a b e f d (by omega) ha hb he hf hd
     rwa [show i0 + 1 + i = i0 + (i + 1) by omega] at this
  ·cases h
theorem edgesOK_spec : ∀ {r : List Oper} {i0 : Nat}, edgesOK i0 r = true → ∀ i o, nth? r i = some o → ∀ e ∈ o.after.toList, Region.binds .any e = true → e.on < i0 + i
 | [], i0, h, i, o, ho => by cases i <;> cases ho
 | x :: r, i0, h, i, o, ho => by
  simp only [edgesOK] at h
  split at h
  ·rename_i ht
   cases i with
   | zero =>
    cases ho
    intro e he hb
    have := List.all_eq_true.1 ht e he
    rw [hb] at this
    exact Nat.le_of_ble_eq_true this
   | succ i =>
    have := edgesOK_spec h i o ho
    rwa [show i0 + 1 + i = i0 + (i + 1) by omega] at this
  ·cases h
theorem meets_false {l r : List Nat} (h : meets l r = false) {i : Nat} (h1 : memb l i = true) (h2 : memb r i = true) : False := by
 have := meets_iff.2 ⟨i, h1, h2⟩
 rw [h] at this; cases this
theorem conf_before {ops : List Oper} {rs : List Rc} (hl : rs.length = ops.length) (hs : regionOK ops = true) (ho : ordOK 0 ops (rs.map (·.e)) (befores ops []) = true) {i j : Nat} (hij : i < j) (hj : j < ops.length) (hc : Conf ops rs i j) : Before ops j i := by
 unfold regionOK at hs
 split at hs
 ·rename_i _ hst
  obtain ⟨b1, b2⟩ := befores_spec (all := ops) ops [] (fun k => by simp) (fun j q k h => by cases j <;> cases h)
  simp at b1
  obtain ⟨a, ha⟩ := nth?_some (l := ops) (i := i) (by omega)
  obtain ⟨b, hb⟩ := nth?_some (l := ops) (i := j) hj
  obtain ⟨ra, hra⟩ := nth?_some (l := rs) (i := i) (by omega)
  obtain ⟨rb, hrb⟩ := nth?_some (l := rs) (i := j) (by omega)
  obtain ⟨c, hcc⟩ := nth?_some (l := befores ops []) (i := j) (by omega)
  have mapE : ∀ k r, nth? rs k = some r → nth? (rs.map (·.e)) k = some r.e := fun k r h => by
   rw [nth?_get] at h ⊢
   simp [h]
  have h1 := statOK_spec hst i j a b c hij ha hb hcc
  have h2 := ordOK_spec ho i j a b ra.e rb.e c hij ha hb (mapE i ra hra) (mapE j rb hrb) hcc
  rw [Nat.zero_add] at h1 h2
  cases hm : memb c i with
  | true => exact b2 j c i hcc hm
  | false =>
   exfalso
   rw [hm] at h1 h2
   have h1 := h1.resolve_left (by simp)
   have h2 := h2.resolve_left (by simp)
   have da : dstAt ops i = a.dst := by simp [dstAt, ha]
   have db : dstAt ops j = b.dst := by simp [dstAt, hb]
   have ea : effAt rs i = ra.e := by simp [effAt, hra]
   have eb : effAt rs j = rb.e := by simp [effAt, hrb]
   have qa : readsAt ops i = readsOf ops a := by simp [readsAt, ha]
   have qb : readsAt ops j = readsOf ops b := by simp [readsAt, hb]
   unfold Conf at hc
   rw [da, db, ea, eb, qa, qb] at hc
   -- the slots
   have hslot : ∀ t, ¬ (a.dst = some t ∧ (memb (readsOf ops b) t = true ∨ b.dst = some t)) ∧ ¬ (b.dst = some t ∧ memb (readsOf ops a) t = true) := by
    intro t
    unfold tconf at h1
    split at h1
    ·rename_i x y; simp [x, y]
    ·rename_i x y; rw [x, y]; simp; intro e; subst e; exact h1
    ·rename_i x y; rw [x, y]; simp; intro e; subst e; exact h1
    ·rename_i u v x y
     rw [x, y]
     simp only [Bool.or_eq_false_iff] at h1
     obtain ⟨⟨k1, k2⟩, k3⟩ := h1
     refine ⟨?_, ?_⟩
     ·rintro ⟨e1, e2⟩
      cases e1
      rcases e2 with e2 | e2
      ·rw [k2] at e2; cases e2
      ·cases e2; simp [Nat.beq_refl] at k1
     ·rintro ⟨e1, e2⟩
      cases e1
      rw [k3] at e2; cases e2
   -- the memory
   have hids : (∀ id, memb ra.e.wrs id = true → memb rb.e.rd id = true ∨ memb rb.e.wrs id = true → False) ∧ (∀ id, memb rb.e.wrs id = true → memb ra.e.rd id = true → False) ∧ inRow (slot b.dst) (keysOf ra.e.wr) = false ∧ inRow (slot a.dst) (keysOf rb.e.wr) = false := by
    have sub : ∀ (e : Eff), e.wrs = [] → keysOf e.wr = [] := fun e he => by
     unfold Eff.wrs at he
     exact (List.append_eq_nil_iff.1 he).1
    unfold free2 at h2
    split at h2
    ·rename_i x y
     exact ⟨fun id h => by simp [x, memb] at h, fun id h => by simp [y, memb] at h, by rw [sub _ x]; rfl, by rw [sub _ y]; rfl⟩
    ·split at h2
     ·rename_i m1 m2 m3 m4
      exact ⟨fun id h k => meets_false m1 h (memb_append.2 k), fun id h k => meets_false m2 h k, m3, m4⟩
     ·cases h2
   rcases hc with ⟨t, k1, k2⟩ | ⟨t, k1, k2⟩ | ⟨id, k1, k2⟩ | ⟨id, k1, k2⟩ | k | k
   ·exact (hslot t).1 ⟨k1, k2⟩
   ·exact (hslot t).2 ⟨k1, k2⟩
   ·exact hids.1 id k1 k2
   ·exact hids.2.1 id k1 k2
   ·rw [hids.2.2.1] at k; cases k
   ·rw [hids.2.2.2] at k; cases k
 ·cases hs
theorem before_closed {all : List Oper} {L : Nat → Bool} (hL : ∀ j o, L j = true → nth? all j = some o → ∀ e ∈ o.after.toList, Region.binds .any e = true → L e.on = true) {j k : Nat} (h : Before all j k) :
  (∀ o, nth? all j = some o → ∀ e ∈ o.after.toList, Region.binds .any e = true → L e.on = true) → L k = true := by
 induction h with
 | edge ho he hb => exact fun h => h _ ho _ he hb
 | more ho he hb _ ih =>
  intro h
  exact ih fun o' ho' e' he' hb' => hL _ o' (h _ ho _ he hb) ho' e' he' hb'
end Go.Bu
namespace Go.Bu
section
variable {C : Ctx} {P : Program} {W : Way} {N : Nat} {D : Dom} {S S' T : St} {ρ : Ren} {A : Nat → Prop} {a : Act} {w : World}
theorem own_same {H H' : List (Nat × Blk)} (h : ∀ i, look H i = look H' i) : own ρ H = own ρ H' := by
 funext b
 simp only [own, h]
theorem HeapRel.same {H H' : List (Nat × Blk)} (h : HeapRel w A ρ H) (he : ∀ i, look H' i = look H i) : HeapRel w A ρ H' :=
 ⟨fun id k hk => h.blk id k (by rwa [he] at hk), fun id id' l l' h1 h2 => h.inj id id' l l' (by rwa [he] at h1) (by rwa [he] at h2), fun id l h1 => h.apart id l (by rwa [he] at h1)⟩
theorem Rel.same (h : Rel C N D T ρ A a w) (ht : ∀ t, look S.tm t = look T.tm t) (hh : ∀ i, look S.hp i = look T.hp i) (hs : ∀ i, memb S.seen i = true ↔ memb T.seen i = true) : Rel C N D S ρ A a w :=
 ⟨fun t x hx => h.tm t x (by rwa [ht] at hx), h.nt, h.df, h.hp.same hh, h.Ab, fun id l hl => ⟨(h.rb id l hl).1, (hs id).2 (h.rb id l hl).2⟩, fun id hid => (hs id).2 (h.sn id (by rwa [hh] at hid)), h.gl⟩
theorem behind_none {dst : Nat → Option Nat} {ef : Nat → Eff} {n : Nat} {L : Nat → Bool} (hL : ∀ k, k < n → L k = false) : Behind S dst ef n L S := by
 refine ⟨fun t => ?_, fun i => ?_, fun i => ⟨fun h => .inl h, ?_⟩⟩
 ·induction n with
  | zero => rfl
  | succ n ih => simp only [lastT, hL n (by omega)]; exact ih fun k hk => hL k (by omega)
 ·induction n with
  | zero => rfl
  | succ n ih => simp only [lastH, hL n (by omega)]; exact ih fun k hk => hL k (by omega)
 ·rintro (h | ⟨k, h1, h2, _⟩)
  ·exact h
  ·rw [hL k h1] at h2; cases h2
theorem behind_same {dst : Nat → Option Nat} {ef : Nat → Eff} {n : Nat} {L L' : Nat → Bool} {S0 : St} (h : Behind S0 dst ef n L T) (h' : Behind S0 dst ef n L' S) (hL : ∀ k, k < n → L k = L' k) :
  (∀ t, look S.tm t = look T.tm t) ∧ (∀ i, look S.hp i = look T.hp i) ∧ ∀ i, memb S.seen i = true ↔ memb T.seen i = true := by
 refine ⟨fun t => ?_, fun i => ?_, fun i => ?_⟩
 ·rw [h.tm, h'.tm, lastT_congr fun k hk _ => hL k hk]
 ·rw [h.hp, h'.hp, lastH_congr fun k hk _ => hL k hk]
 ·rw [h.sn, h'.sn]
  constructor
  ·rintro (q | ⟨k, q1, q2, q3⟩)
   ·exact .inl q
   ·exact .inr ⟨k, q1, by rw [hL k q1]; exact q2, q3⟩
  ·rintro (q | ⟨k, q1, q2, q3⟩)
   ·exact .inl q
   ·exact .inr ⟨k, q1, by rw [← hL k q1]; exact q2, q3⟩
theorem count_with1 {L : Nat → Bool} {i : Nat} (hi : L i = false) : ∀ n, (List.range n).countP (with1 L i) = (List.range n).countP L + (if i < n then 1 else 0)
 | 0 => by simp
 | n + 1 => by
  rw [List.range_succ, List.countP_append, List.countP_append, count_with1 hi n]
  by_cases e : n = i
  ·subst e; simp [with1, hi]
  ·have h1 : with1 L i n = L n := by simp [with1, e]
   by_cases hlt : i < n
   ·simp [hlt, h1, show i < n + 1 by omega]; omega
   ·simp [hlt, h1, show ¬ i < n + 1 by omega]
theorem count_all {L : Nat → Bool} : ∀ n, (List.range n).countP L = n → ∀ k, k < n → L k = true
 | 0, _, k, hk => by omega
 | n + 1, h, k, hk => by
  rw [List.range_succ, List.countP_append] at h
  have hle : (List.range n).countP L ≤ n := by have := List.countP_le_length (p := L) (l := List.range n); simpa using this
  cases hn : L n with
  | false => simp [hn] at h; omega
  | true =>
   simp [hn] at h
   by_cases e : k = n
   ·subst e; exact hn
   ·exact count_all n h k (by omega)
theorem region_any (K : CtxOK C P) (h : Rel C W.nt D S ρ A a w) {ops : Array Oper} {rs : List Rc} {kn' : List (Nat × Bool)} (hrun : Run C P D W ops.toList ops.toList S [] rs S' kn') (hs : regionOK ops.toList = true) (ho : ordOK 0 ops.toList (rs.map (·.e)) (befores ops.toList []) = true)
  (Q : Exit → Act → World → Prop) (hQ : ∀ a' w' ρ' A', Rel C W.nt D S' ρ' A' a' w' → Evo w A (own ρ S.hp) w' A' (own ρ' S'.hp) → (∀ id l, ρ id = some l → ρ' id = some l) → Q .normal a' w') :
  wpAnyIn (FR D.round) 0 P .any ops Q ops.size (Array.replicate ops.size false) a w := by
 have hlen := run_len hrun
 obtain ⟨hk', hrec⟩ := run_recs hrun fun t b hb => by cases hb
 obtain ⟨hend, hbeh⟩ := run_behind (S0 := S) (full := ops.toList) (rf := rs) hrun 0 (by simp) (fun k => by simp) (fun k => by simp) (behind_none fun k hk => by simp)
 have hedge : ∀ i o, nth? ops.toList i = some o → ∀ e ∈ o.after.toList, Region.binds .any e = true → e.on < i := by
  have he : edgesOK 0 ops.toList = true := by
   unfold regionOK at hs
   split at hs
   ·assumption
   ·cases hs
  intro i o hi e hee hb
  have := edgesOK_spec he i o hi e hee hb
  omega
 have hn : ops.toList.length = ops.size := by simp
 have getOp : ∀ {j : Nat} {o : Oper}, ops[j]? = some o ↔ nth? ops.toList j = some o := fun {j o} => by rw [nth?_get, Array.getElem?_toList]
 have fin : ∀ {L : Nat → Bool} {T : St} {ρ1 : Ren} {A1 : Nat → Prop} {a1 : Act} {w1 : World}, (∀ k, k < ops.toList.length → L k = true) → Behind S (dstAt ops.toList) (effAt rs) ops.toList.length L T → Rel C W.nt D T ρ1 A1 a1 w1 →
   Evo w A (own ρ S.hp) w1 A1 (own ρ1 T.hp) → (∀ id l, ρ id = some l → ρ1 id = some l) → Q .normal a1 w1 := by
  intro L T ρ1 A1 a1 w1 hL hB hR hE hg
  obtain ⟨e1, e2, e3⟩ := behind_same hB hend fun k hk => by rw [hL k hk]; simpa using hk
  refine hQ a1 w1 ρ1 A1 (hR.same e1 e2 e3) ?_ hg
  rw [own_same e2]; exact hE
 have main : ∀ (fuel : Nat) (listed : Array Bool) (T : St) (ρ1 : Ren) (A1 : Nat → Prop) (a1 : Act) (w1 : World), listed.size = ops.size →
   (List.range ops.size).countP (fun k => listed.getD k false) + fuel = ops.size →
   (∀ j o, listed.getD j false = true → nth? ops.toList j = some o → ∀ e ∈ o.after.toList, Region.binds .any e = true → listed.getD e.on false = true) →
   Behind S (dstAt ops.toList) (effAt rs) ops.toList.length (fun k => listed.getD k false) T → Rel C W.nt D T ρ1 A1 a1 w1 → Evo w A (own ρ S.hp) w1 A1 (own ρ1 T.hp) → (∀ id l, ρ id = some l → ρ1 id = some l) →
   wpAnyIn (FR D.round) 0 P .any ops Q fuel listed a1 w1 := by
  intro fuel
  induction fuel with
  | zero =>
   intro listed T ρ1 A1 a1 w1 hsz hcnt hcl hB hR hE hg
   have hall := count_all (L := fun k => listed.getD k false) ops.size (by simpa using hcnt)
   refine ⟨?_, fin (fun k hk => hall k (by omega)) hB hR hE hg⟩
   apply List.eq_nil_iff_forall_not_mem.2
   intro j hj
   obtain ⟨h1, o, h2, _⟩ := mem_ready.1 hj
   have hlt := (Array.getElem?_eq_some_iff.1 h2).1
   have h3 := hall j hlt
   have hlt' : j < listed.size := by omega
   simp [hlt'] at h1 h3
   rw [h1] at h3; cases h3
  | succ fuel ih =>
   intro listed T ρ1 A1 a1 w1 hsz hcnt hcl hB hR hE hg
   have same : ∀ k, k < ops.size → listed.getD k true = listed.getD k false := fun k hk => by
    have hlt' : k < listed.size := by omega
    simp [hlt']
   refine ⟨fun hr => ?_, fun i hi => ?_⟩
   ·have hall : ∀ k, k < ops.size → listed.getD k false = true := by
     intro k
     induction k using Nat.strongRecOn with
     | _ k ihk =>
      intro hk
      cases hb : listed.getD k false with
      | true => rfl
      | false =>
       exfalso
       have hmem : k ∈ Region.ready .any ops listed := by
        refine mem_ready.2 ⟨by rw [same k hk]; exact hb, ops[k], Array.getElem?_eq_getElem hk, fun e he hbe => ?_⟩
        have := hedge k ops[k] (getOp.1 (Array.getElem?_eq_getElem hk)) e (by simpa using he) hbe
        exact ihk e.on this (by omega)
       rw [hr] at hmem
       cases hmem
    exact fin (fun k hk => hall k (by omega)) hB hR hE hg
   ·obtain ⟨h1, o, h2, h3⟩ := mem_ready.1 hi
    have hlt := (Array.getElem?_eq_some_iff.1 h2).1
    have hself : listed.getD i false = false := by rw [← same i hlt]; exact h1
    have hoi := getOp.1 h2
    obtain ⟨r, hr⟩ := nth?_some (l := rs) (i := i) (by rw [hlen, hn]; exact hlt)
    have hpre : ∀ o', nth? ops.toList i = some o' → ∀ e ∈ o'.after.toList, Region.binds .any e = true → listed.getD e.on false = true := fun o' ho' e he hb => by
     rw [hoi] at ho'; cases ho'
     exact h3 e (by simpa using he) hb
    have hbehi := hbeh i r hr
    rw [Nat.zero_add] at hbehi
    refine region_step K hR hoi hr (hrec i o r hoi hr) hB hbehi ⟨hself, fun k hk hne hc => ?_⟩ Q _ fun a' w' T' ρ' A' hB' hR' hE' hg' => ?_
    ·rcases Nat.lt_or_gt_of_ne hne with hlt' | hgt
     ·have hb := conf_before hlen hs ho hlt' (by omega) hc
      have := before_closed (L := fun k => listed.getD k false) hcl hb hpre
      simp only [this, hlt']
     ·have hb := conf_before hlen hs ho hgt (by omega) hc.symm
      refine ⟨fun hLk => ?_, fun h => by omega⟩
      have := before_closed (L := fun k => listed.getD k false) hcl hb fun o' ho' e he hbe => hcl k o' hLk ho' e he hbe
      rw [hself] at this; cases this
    ·have hLeq : (fun k => (listed.setIfInBounds i true).getD k false) = with1 (fun k => listed.getD k false) i := by
      funext k
      simp only [with1]
      by_cases e : k = i
      ·subst e
       have : k < listed.size := by omega
       simp [this]
      ·rw [if_neg e, getD_set_ne false (Ne.symm e)]
     refine ih (listed.setIfInBounds i true) T' ρ' A' a' w' (by simp [hsz]) ?_ (fun j o' hj ho' e he hbe => ?_) (by rw [hLeq]; exact hB') hR' (hE.trans hE') (fun id l hl => hg' id l (hg id l hl))
     ·rw [hLeq, count_with1 (L := fun k => listed.getD k false) hself, if_pos hlt]; omega
     ·by_cases e1 : j = i
      ·subst e1; exact getD_set_true (hpre o' ho' e he hbe)
      ·rw [getD_set_ne false (Ne.symm e1)] at hj
       exact getD_set_true (hcl j o' hj ho' e he hbe)
 refine main ops.size (Array.replicate ops.size false) S ρ A a w (by simp) ?_ (fun j o hj => ?_) (behind_none fun k hk => ?_) h (.refl _ _ _) fun _ _ h => h
 ·have : (fun k => (Array.replicate ops.size false).getD k false) = fun _ => false := by funext k; by_cases hk : k < ops.size <;> simp [hk]
  rw [this]; simp
 ·by_cases hk : j < ops.size <;> simp [hk] at hj
 ·have : k < ops.size := by omega
  simp [this]
theorem region_text (K : CtxOK C P) (h : Rel C W.nt D S ρ A a w) {ops : Array Oper} {rs : List Rc} {kn' : List (Nat × Bool)} (hrun : Run C P D W ops.toList ops.toList S [] rs S' kn')
  (Q : Exit → Act → World → Prop) (hQ : ∀ a' w' ρ' A', Rel C W.nt D S' ρ' A' a' w' → Evo w A (own ρ S.hp) w' A' (own ρ' S'.hp) → (∀ id l, ρ id = some l → ρ' id = some l) → Q .normal a' w') :
  wpOpsIn (FR D.round) 0 P ops Q (List.range ops.size) a w := by
 have hlen := run_len hrun
 obtain ⟨hk', hrec⟩ := run_recs hrun fun t b hb => by cases hb
 obtain ⟨hend, hbeh⟩ := run_behind (S0 := S) (full := ops.toList) (rf := rs) hrun 0 (by simp) (fun k => by simp) (fun k => by simp) (behind_none fun k hk => by simp)
 have hn : ops.toList.length = ops.size := by simp
 have main : ∀ (m j : Nat) (T : St) (ρ1 : Ren) (A1 : Nat → Prop) (a1 : Act) (w1 : World), j + m = ops.size →
   Behind S (dstAt ops.toList) (effAt rs) ops.toList.length (fun k => decide (k < j)) T → Rel C W.nt D T ρ1 A1 a1 w1 → Evo w A (own ρ S.hp) w1 A1 (own ρ1 T.hp) → (∀ id l, ρ id = some l → ρ1 id = some l) →
   wpOpsIn (FR D.round) 0 P ops Q ((List.range ops.size).drop j) a1 w1 := by
  intro m
  induction m with
  | zero =>
   intro j T ρ1 A1 a1 w1 hj hB hR hE hg
   rw [List.drop_eq_nil_of_le (by simp; omega)]
   obtain ⟨e1, e2, e3⟩ := behind_same hB hend fun k hk => by simp; omega
   refine hQ a1 w1 ρ1 A1 (hR.same e1 e2 e3) ?_ hg
   rw [own_same e2]; exact hE
  | succ m ih =>
   intro j T ρ1 A1 a1 w1 hj hB hR hE hg
   have hlt : j < ops.size := by omega
   rw [List.drop_eq_getElem_cons (by simpa using hlt), List.getElem_range, wpOpsIn_cons]
   obtain ⟨o, ho⟩ := nth?_some (l := ops.toList) (i := j) (by omega)
   obtain ⟨r, hr⟩ := nth?_some (l := rs) (i := j) (by omega)
   have hbehi := hbeh j r hr
   rw [Nat.zero_add] at hbehi
   refine region_step K hR ho hr (hrec j o r ho hr) hB hbehi ⟨by simp, fun k hk hne hc => by simp⟩ Q _ fun a' w' T' ρ' A' hB' hR' hE' hg' => ?_
   refine ih (j + 1) T' ρ' A' a' w' (by omega) ?_ hR' (hE.trans hE') (fun id l hl => hg' id l (hg id l hl))
   have hL : with1 (fun k => decide (k < j)) j = fun k => decide (k < j + 1) := by
    funext k
    simp only [with1]
    by_cases e : k = j
    ·subst e; simp
    ·rw [if_neg e]
     have : k < j ↔ k < j + 1 := by omega
     simp [this]
   rwa [hL] at hB'
 have := main ops.size 0 S ρ A a w (by omega) (behind_none fun k hk => by simp) h (.refl _ _ _) fun _ _ h => h
 simpa using this
end
end Go.Bu
namespace Go.Bu
def exOf : Ex → Exit
 | .normal => .normal
 | .exit i => .exit i
 | .ret => .ret
def FixOK (D : Dom) (k : Nat) : Prop := ∀ (ρ ρ' : Ren) (A : Nat → Prop) (w : World), D.ext ρ A w → (∀ id l, id < k → ρ id = some l → ρ' id = some l) → D.ext ρ' A w
def Post (C : Ctx) (N : Nat) (D : Dom) (k : Nat) (w0 : World) (A0 O0 : Nat → Prop) (ρ0 : Ren) (Φ : Ex → St → Prop) : Exit → Act → World → Prop := fun ex a w =>
 ∃ e S ρ A, ex = exOf e ∧ Φ e S ∧ Rel C N D S ρ A a w ∧ Evo w0 A0 O0 w A (own ρ S.hp) ∧ ∀ id l, id < k → ρ0 id = some l → ρ id = some l
def LoopOK (C : Ctx) (P : Program) (N : Nat) (D : Dom) (k : Nat) (b : Code) (S : St) (Φ : Ex → St → Prop) : Prop :=
 FixOK D k → ∀ ρ A a w, Rel C N D S ρ A a w → (Code.loop b).wpIn (FR D.round) 0 P (Post C N D k w A (own ρ S.hp) ρ Φ) a w
def RngOK (C : Ctx) (P : Program) (N : Nat) (D : Dom) (k : Nat) (c : Code) (S : St) (Φ : Ex → St → Prop) : Prop :=
 FixOK D k → ∀ ρ A a w, Rel C N D S ρ A a w → c.wpIn (FR D.round) 0 P (Post C N D k w A (own ρ S.hp) ρ Φ) a w
def Ent (C : Ctx) (N : Nat) (D : Dom) (k : Nat) (S S' : St) : Prop :=
 FixOK D k → ∀ ρ A a w, Rel C N D S ρ A a w → ∃ ρ' A', Rel C N D S' ρ' A' a w ∧ Evo w A (own ρ S.hp) w A' (own ρ' S'.hp) ∧ ∀ id l, id < k → ρ id = some l → ρ' id = some l
def Holds (C : Ctx) (P : Program) (N : Nat) (D : Dom) (k : Nat) (Φ : Ex → St → Prop) : VC → Prop
 | .fork b t e => (b = true → Holds C P N D k Φ t) ∧ (b = false → Holds C P N D k Φ e)
 | .need p q => p ∧ Holds C P N D k Φ q
 | .leaf e S => Φ e S
 | .call g args H r H' q => Fun C P g args H r H' ∧ Holds C P N D k Φ q
 | .yld L l args H r H' q => YFun C P D L l args H r H' ∧ Holds C P N D k Φ q
 | .loop _ b S q => LoopOK C P N D k b S (fun e S' => Holds C P N D k Φ (q e S'))
 | .rng _ c S q => RngOK C P N D k c S (fun e S' => Holds C P N D k Φ (q e S'))
 | .fail _ => False
 | .cut _ S q => ∃ S2, Ent C N D k S S2 ∧ Holds C P N D k Φ (q S2)
section
variable {C : Ctx} {P : Program} {W : Way} {N : Nat} {D : Dom} {k : Nat} {Φ : Ex → St → Prop} {S S' T : St} {ρ : Ren} {A : Nat → Prop} {a : Act} {w : World}
theorem holds_needs {l : List Prop} {q : VC} (h : Holds C P N D k Φ (needs l q)) : AllP l ∧ Holds C P N D k Φ q := by
 induction l with
 | nil => exact ⟨fun p hp => (by cases hp), h⟩
 | cons p r ih =>
  obtain ⟨h1, h2⟩ := h
  obtain ⟨h3, h4⟩ := ih h2
  refine ⟨fun q hq => ?_, h4⟩
  rcases List.mem_cons.1 hq with rfl | hq
  ·exact h1
  ·exact h3 q hq
theorem holds_call {d : Nat} {free : Bool} {g : Nat} {args : List AV} {q : Eff → VC} (h : Holds C P N D k Φ (callVC W S d free g args q)) :
  ∃ e, Holds C P N D k Φ (q e) ∧ ((∃ L H0 args' r H' e0, (∀ id, look H0 id = if memb L id = true then look S.hp id else none) ∧ lend.lends H0 40 args = some args' ∧ Fun C P g args' [] r H' ∧ backEff S [] d r H' = some e0 ∧ e = { e0 with dead := minus L (keysOf e0.wr), rd := L }) ∨
   (∃ L H0 args' r r1 H', (∀ id, look H0 id = if memb L id = true then look S.hp id else none) ∧ lend.lends H0 40 args = some args' ∧ Fun C P g args' [] r H' ∧ ren (fun _ => none) 40 r = some r1 ∧ noMem r ∧ e = { v := r, rd := L }) ∨
   (∃ L H0 args' H r H', (∀ id, look H0 id = if memb L id = true then look S.hp id else none) ∧ ren.rens (liveIn H0 L) 40 args = some args' ∧ renHp (liveIn H0 L) H0 = some H ∧ allLive S.hp L = true ∧ distinct L = true ∧ Fun C P g args' H r H' ∧ backEff S L d r H' = some e)) := by
 unfold callVC at h
 split at h
 ·dsimp only at h
  split at h
  ·rename_i args' hl
   split at h
   ·rename_i r H' hc
    split at h
    ·split at h
     ·rename_i r1 hr
      obtain ⟨h1, h2, h3⟩ := h
      exact ⟨_, h3, .inr (.inl ⟨_, _, args', r, r1, H', look_keepOnly _ _, hl, h1, hr, h2, rfl⟩)⟩
     ·exact h.elim
    ·split at h
     ·rename_i e he
      obtain ⟨h1, h2⟩ := h
      exact ⟨_, h2, .inl ⟨_, _, args', r, H', e, look_keepOnly _ _, hl, h1, he, rfl⟩⟩
     ·exact h.elim
   ·exact h.elim
  ·exact h.elim
 ·dsimp only at h
  split at h
  ·rename_i args' H hl hH
   split at h
   ·rename_i r H' hc ha hd
    split at h
    ·rename_i e he
     obtain ⟨h1, h2⟩ := h
     exact ⟨_, h2, .inr (.inr ⟨_, _, args', H, r, H', look_keepOnly _ _, hl, hH, ha, hd, h1, he⟩)⟩
    ·exact h.elim
   ·exact h.elim
  ·exact h.elim
theorem holds_yld {d l : Nat} {args : List AV} {q : Eff → VC} (h : Holds C P N D k Φ (yldVC W S d l args q)) :
  ∃ e L H0 args' H r H', Holds C P N D k Φ (q e) ∧ (∀ id, look H0 id = if memb L id = true then look S.hp id else none) ∧ ren.rens (liveIn H0 L) 40 args = some args' ∧ renHp (liveIn H0 L) H0 = some H ∧ allLive S.hp L = true ∧ distinct L = true ∧
   YFun C P D L l args' H r H' ∧ backEff S L d r H' = some e := by
 unfold yldVC at h
 dsimp only at h
 split at h
 ·rename_i args' H hl hH
  split at h
  ·rename_i r H' hc ha hd
   split at h
   ·rename_i e he
    obtain ⟨h1, h2⟩ := h
    exact ⟨e, _, _, args', H, r, H', h2, look_keepOnly _ _, hl, hH, ha, hd, h1, he⟩
   ·exact h.elim
  ·exact h.elim
 ·exact h.elim
theorem holds_op {o : Oper} {q : Eff → VC} (h : Holds C P N D k Φ (vcOp C W o S q)) : ∃ e, dstOK W.nt o.dst = true ∧ Acts C P D W o S e ∧ Holds C P N D k Φ (q e) := by
 unfold vcOp at h
 split at h
 ·exact h.elim
 ·rename_i hd
  have plain : ∀ {op : Op}, o.op = op → Holds C P N D k Φ (match opEff C S (slot o.dst) (memb W.inpl (slot o.dst)) o.op with | some e => needs e.ob (q e) | none => .fail 4) → ∃ e, dstOK W.nt o.dst = true ∧ Acts C P D W o S e ∧ Holds C P N D k Φ (q e) := by
   intro op _ h
   split at h
   ·rename_i e he
    obtain ⟨h1, h2⟩ := holds_needs h
    exact ⟨e, hd, .plain he h1, h2⟩
   ·exact h.elim
  split at h
  ·rename_i c ho
   split at h
   ·rename_i f hc
    split at h
    ·rename_i g caps xs hf hx
     split at h
     ·rename_i hn
      obtain ⟨e, h1, h2⟩ := holds_call h
      refine ⟨e, hd, ?_, h1⟩
      rcases h2 with ⟨L, H0, args', r, H', e0, g1, g2, g3, g4, rfl⟩ | ⟨L, H0, args', r, r1, H', g1, g2, g3, g4, g5, rfl⟩ | ⟨L, H0, args', H, r, H', g1, g2, g3, g4, g5, g6, g7⟩
      ·exact .lent ho hc hf hx hn g1 g2 g3 g4
      ·exact .free ho hc hf hx hn g1 g2 g3 g4 g5
      ·exact .ref ho hc hf hx hn g1 g2 g3 g4 g5 g6 g7
     ·exact h.elim
    ·rename_i l fs cs xs hf hx
     split at h
     ·rename_i hfs hn
      obtain ⟨e, L, H0, args', H, r, H', h1, g1, g2, g3, g4, g5, g6, g7⟩ := holds_yld h
      exact ⟨e, hd, .yld ho hc hf hfs hx hn g1 g2 g3 g4 g5 g6 g7, h1⟩
     ·exact h.elim
    ·exact h.elim
   ·split at h
    ·rename_i e he
     obtain ⟨h1, h2⟩ := holds_needs h
     exact ⟨e, hd, .plain (by simpa [ho] using he) h1, h2⟩
    ·exact h.elim
  ·split at h
   ·rename_i e he
    obtain ⟨h1, h2⟩ := holds_needs h
    exact ⟨e, hd, .plain (by simpa using he) h1, h2⟩
   ·exact h.elim
theorem holds_ops {all : List Oper} : ∀ (ops : List Oper) (S : St) (kn : List (Nat × Bool)) (tr : List Eff) (q : St → List (Nat × Bool) → List Eff → VC), Holds C P N D k Φ (vcOps C W all ops S kn tr q) →
  ∃ rs S' kn', Run C P D W all ops S kn rs S' kn' ∧ Holds C P N D k Φ (q S' kn' ((rs.map (·.e)).reverse ++ tr))
 | [], S, kn, tr, q, h => ⟨[], S, kn, .nil, by simpa [vcOps] using h⟩
 | o :: r, S, kn, tr, q, h => by
  have act : ∀ {kn : List (Nat × Bool)}, guardOf all S kn o = .yes → Holds C P N D k Φ (vcOp C W o (S.know kn) (fun e => vcOps C W all r (S.apply o.dst e) (forget kn o.dst) (e :: tr) q)) →
    ∃ rs S' kn', Run C P D W all (o :: r) S kn rs S' kn' ∧ Holds C P N D k Φ (q S' kn' ((rs.map (·.e)).reverse ++ tr)) := by
   intro kn hg h
   obtain ⟨e, h1, h2, h3⟩ := holds_op h
   obtain ⟨rs, S', kn', h4, h5⟩ := holds_ops r _ _ _ q h3
   exact ⟨_, S', kn', .act hg h1 h2 h4, by simpa using h5⟩
  have skip : ∀ {kn : List (Nat × Bool)} {c : Nat}, guardOf all S kn o = .no → Holds C P N D k Φ (match dstOK W.nt o.dst with | true => vcOps C W all r (S.apply o.dst skipEff) (forget kn o.dst) (skipEff :: tr) q | false => .fail c) →
    ∃ rs S' kn', Run C P D W all (o :: r) S kn rs S' kn' ∧ Holds C P N D k Φ (q S' kn' ((rs.map (·.e)).reverse ++ tr)) := by
   intro kn c hg h
   split at h
   ·rename_i hd
    obtain ⟨rs, S', kn', h4, h5⟩ := holds_ops r _ _ _ q h
    exact ⟨_, S', kn', .skip hg hd h4, by simpa using h5⟩
   ·exact h.elim
  simp only [vcOps] at h
  split at h
  ·rename_i hg; exact act hg h
  ·rename_i hg; exact skip hg h
  ·rename_i t b want hg
   have hk : ∀ b', b = b' → guardOf all S ((t, b') :: kn) o = eqB b' want := by
    intro b' hb
    unfold guardOf at hg ⊢
    split at hg
    ·cases hg
    ·rename_i j w' hgd
     split at hg
     ·cases hg
     ·rename_i t' ht
      have eqb : ∀ {x y : Bool} {t b w}, eqB x y ≠ .ask t b w := by intro x y t b w; cases x <;> cases y <;> simp [eqB]
      split at hg
      ·exact absurd hg eqb
      ·split at hg
       ·exact absurd hg eqb
       ·cases hg
        simp [look, Nat.beq_refl]
       ·cases hg
       ·cases hg
   obtain ⟨h1, h2⟩ := h
   cases hb : b with
   | true =>
    have hkb := hk true hb
    subst hb
    cases want with
    | true => obtain ⟨rs, S', kn', h4, h5⟩ := act hkb (h1 rfl); exact ⟨rs, S', kn', .ask hg h4, h5⟩
    | false => obtain ⟨rs, S', kn', h4, h5⟩ := skip hkb (h1 rfl); exact ⟨rs, S', kn', .ask hg h4, h5⟩
   | false =>
    have hkb := hk false hb
    subst hb
    cases want with
    | false => obtain ⟨rs, S', kn', h4, h5⟩ := act hkb (h2 rfl); exact ⟨rs, S', kn', .ask hg h4, h5⟩
    | true => obtain ⟨rs, S', kn', h4, h5⟩ := skip hkb (h2 rfl); exact ⟨rs, S', kn', .ask hg h4, h5⟩
  ·exact h.elim
theorem Rel.knowAll (h : Rel C N D S ρ A a w) {kn : List (Nat × Bool)} (hk : KnOK S kn) (l : List Nat) : Rel C N D ((S.know kn).only l) ρ A a w := by
 refine Rel.only (S := S.know kn) ⟨fun t x hx => ?_, h.nt, h.df, h.hp, h.Ab, h.rb, h.sn, h.gl⟩ l
 simp only [St.know, look_know] at hx
 cases hkt : look kn t with
 | none => rw [hkt] at hx; exact h.tm t x hx
 | some b =>
  rw [hkt] at hx
  cases hx
  obtain ⟨v, q1, q2⟩ := h.tm t _ (hk t b hkt)
  exact ⟨v, q1, by rw [rt_bool q2]; exact .of_leaf rfl (.v rfl)⟩
theorem setB_rel (h : Rel C N D S ρ A a w) {c : Operand} {b : Bool} (hc : S.val C c = some (.sb b)) : Rel C N D (S.setB c b) ρ A a w := by
 cases c with
 | tmp t => exact h.known hc
 | const v => exact h
 | global g => exact h
 | func f => exact h
theorem evo_drawn (w : World) (A O : Nat → Prop) (n : Nat) : Evo w A O (drawnTo w n) A O :=
 ⟨Nat.le_refl _, rfl, rfl, rfl, fun _ _ _ => rfl, fun _ c _ fz h => ⟨c, fz, h, rfl⟩, fun _ h => h, fun _ h => .inl h, fun _ h => .inl h⟩
theorem setB_hp (S : St) (c : Operand) (b : Bool) : (S.setB c b).hp = S.hp := by cases c <;> rfl
theorem reg_wp (K : CtxOK C P) (hm : P.follows .mixedOrders = true) {id : Nat} {ops : Array Oper} {draws : Bool} {q : Ex → St → VC} {Q : Exit → Act → World → Prop} (hok : codeOK (.region id ops draws) = true) (h : Rel C W.nt D S ρ A a w)
  (hv : Holds C P W.nt D k Φ (regVC C W ops.toList draws S q))
  (hq : ∀ e S' ρ' A' a' w', Holds C P W.nt D k Φ (q e S') → Rel C W.nt D S' ρ' A' a' w' → Evo w A (own ρ S.hp) w' A' (own ρ' S'.hp) → (∀ id l, id < k → ρ id = some l → ρ' id = some l) → Q (exOf e) a' w') : (Code.region id ops draws).wpIn (FR D.round) 0 P Q a w := by
 unfold regVC at hv
 obtain ⟨rs, S', kn', hrun, hv⟩ := holds_ops _ _ _ _ _ hv
 obtain ⟨hk', _⟩ := run_recs hrun fun t b hb => by cases hb
 cases draws with
 | false =>
  simp only at hv
  exact wpIn_region (region_text K h hrun Q fun a' w' ρ' A' hR hE hg => hq .normal _ ρ' A' a' w' hv (hR.knowAll hk' _) hE fun id l _ hl => hg id l hl)
 | true =>
  simp only at hv
  split at hv
  ·rename_i ho
   simp only [List.append_nil, List.reverse_reverse] at ho
   have hd := h.drawn (w.drawn + 1)
   exact wpIn_region_any hm (region_any K hd hrun (by simpa [codeOK] using hok) ho Q fun a' w' ρ' A' hR hE hg => hq .normal _ ρ' A' a' w' hv (hR.knowAll hk' _) ((evo_drawn w A _ _).trans hE) fun id l _ hl => hg id l hl)
  ·exact hv.elim
theorem vc_wp (K : CtxOK C P) (hm : P.follows .mixedOrders = true) (hD : FixOK D k) : ∀ (c : Code) (p : List Nat) (S : St) (q : Ex → St → VC) (ρ : Ren) (A : Nat → Prop) (a : Act) (w : World) (Q : Exit → Act → World → Prop), codeOK c = true → Rel C W.nt D S ρ A a w →
  Holds C P W.nt D k Φ (vc C W c p S q) →
  (∀ e S' ρ' A' a' w', Holds C P W.nt D k Φ (q e S') → Rel C W.nt D S' ρ' A' a' w' → Evo w A (own ρ S.hp) w' A' (own ρ' S'.hp) → (∀ id l, id < k → ρ id = some l → ρ' id = some l) → Q (exOf e) a' w') → c.wpIn (FR D.round) 0 P Q a w
 | .skip, p, S, q, ρ, A, a, w, Q, hok, h, hv, hq => wpIn_skip (hq .normal S ρ A a w hv h (.refl _ _ _) fun _ _ _ h => h)
 | .exit id, p, S, q, ρ, A, a, w, Q, hok, h, hv, hq => wpIn_exit (hq (.exit id) S ρ A a w hv h (.refl _ _ _) fun _ _ _ h => h)
 | .ret, p, S, q, ρ, A, a, w, Q, hok, h, hv, hq => wpIn_ret (hq .ret S ρ A a w hv h (.refl _ _ _) fun _ _ _ h => h)
 | .region id ops draws, p, S, q, ρ, A, a, w, Q, hok, h, hv, hq => by
  simp only [vc] at hv
  split at hv
  ·obtain ⟨S2, hent, hv⟩ := hv
   obtain ⟨ρ2, A2, h2, hE2, hg2⟩ := hent hD ρ A a w h
   exact reg_wp K hm hok h2 hv fun e S' ρ' A' a' w' he hR hE hg => hq e S' ρ' A' a' w' he hR (hE2.trans hE) fun id l hid hl => hg id l hid (hg2 id l hid hl)
  ·exact reg_wp K hm hok h hv hq
 | .seq x y, p, S, q, ρ, A, a, w, Q, hok, h, hv, hq => by
  simp only [codeOK] at hok
  split at hok
  ·rename_i hx
   simp only [vc] at hv
   refine wpIn_seq (vc_wp K hm hD x _ S _ ρ A a w _ hx h hv fun e S' ρ' A' a' w' he hR hE hg => ?_)
   cases e with
   | normal =>
    exact vc_wp K hm hD y _ S' q ρ' A' a' w' Q hok hR he fun e2 S2 ρ2 A2 a2 w2 he2 hR2 hE2 hg2 => hq e2 S2 ρ2 A2 a2 w2 he2 hR2 (hE.trans hE2) fun id l hid hl => hg2 id l hid (hg id l hid hl)
   | exit j => exact hq (.exit j) S' ρ' A' a' w' he hR hE hg
   | ret => exact hq .ret S' ρ' A' a' w' he hR hE hg
  ·cases hok
 | .cond c x y, p, S, q, ρ, A, a, w, Q, hok, h, hv, hq => by
  simp only [codeOK] at hok
  split at hok
  ·rename_i hx
   simp only [vc] at hv
   split at hv
   ·rename_i b hc
    have hcv := rep_v ((h.val hc).leaf rfl)
    cases b with
    | true => exact wpIn_cond hcv (vc_wp K hm hD x _ S q ρ A a w Q hx h hv hq)
    | false => exact wpIn_cond hcv (vc_wp K hm hD y _ S q ρ A a w Q hok h hv hq)
   ·rename_i b hc
    have hcv := rt_bool (h.val hc)
    obtain ⟨h1, h2⟩ := hv
    have hB := setB_rel h hc
    cases b with
    | true => exact wpIn_cond hcv (vc_wp K hm hD x _ _ q ρ A a w Q hx hB (h1 rfl) fun e S' ρ' A' a' w' he hR hE hg => hq e S' ρ' A' a' w' he hR (by rw [setB_hp] at hE; exact hE) hg)
    | false => exact wpIn_cond hcv (vc_wp K hm hD y _ _ q ρ A a w Q hok hB (h2 rfl) fun e S' ρ' A' a' w' he hR hE hg => hq e S' ρ' A' a' w' he hR (by rw [setB_hp] at hE; exact hE) hg)
   ·exact hv.elim
  ·cases hok
 | .block id x, p, S, q, ρ, A, a, w, Q, hok, h, hv, hq => by
  simp only [codeOK] at hok
  simp only [vc] at hv
  refine wpIn_block (vc_wp K hm hD x _ S _ ρ A a w _ hok h hv fun e S' ρ' A' a' w' he hR hE hg => ?_)
  cases e with
  | normal => exact hq .normal S' ρ' A' a' w' he hR hE hg
  | exit j =>
   simp only at he
   show Exit.inBlock id Q (.exit j) a' w'
   simp only [Exit.inBlock]
   split at he
   ·rename_i hb
    rw [if_pos (beq_iff.1 hb)]
    exact hq .normal S' ρ' A' a' w' he hR hE hg
   ·rename_i hb
    rw [if_neg fun e => by subst e; simp [Nat.beq_refl] at hb]
    exact hq (.exit j) S' ρ' A' a' w' he hR hE hg
  | ret => exact hq .ret S' ρ' A' a' w' he hR hE hg
 | .loop x, p, S, q, ρ, A, a, w, Q, hok, h, hv, hq => by
  simp only [vc] at hv
  refine wpIn_mono (hv hD ρ A a w h) fun ex a' w' hp => ?_
  obtain ⟨e, S', ρ', A', rfl, h1, h2, h3, h4⟩ := hp
  exact hq e S' ρ' A' a' w' h1 h2 h3 h4
 | .rangeFunc g ps x y, p, S, q, ρ, A, a, w, Q, hok, h, hv, hq => by
  simp only [vc] at hv
  refine wpIn_mono (hv hD ρ A a w h) fun ex a' w' hp => ?_
  obtain ⟨e, S', ρ', A', rfl, h1, h2, h3, h4⟩ := hp
  exact hq e S' ρ' A' a' w' h1 h2 h3 h4
 | .scope _, _, _, _, _, _, _, _, _, _, _, hv, _ => hv.elim
 | .label _, _, _, _, _, _, _, _, _, _, _, hv, _ => hv.elim
 | .goto _, _, _, _, _, _, _, _, _, _, _, hv, _ => hv.elim
 | .refuse _, _, _, _, _, _, _, _, _, _, _, hv, _ => hv.elim
end
end Go.Bu
namespace Go.Bu
section
variable {C : Ctx} {P : Program} {W : Way} {D : Dom} {k : Nat} {Φ : Ex → St → Prop} {S : St}
theorem Ent.refl (N : Nat) (S : St) : Ent C N D k S S := fun _ ρ A _ _w h => ⟨ρ, A, h, .refl _ _ _, fun _ _ _ h => h⟩
theorem Ent.trans {N : Nat} {S S' S'' : St} (h : Ent C N D k S S') (g : Ent C N D k S' S'') : Ent C N D k S S'' := fun hD ρ A a w hr => by
 obtain ⟨ρ1, A1, h1, h2, h3⟩ := h hD ρ A a w hr
 obtain ⟨ρ2, A2, g1, g2, g3⟩ := g hD ρ1 A1 a w h1
 exact ⟨ρ2, A2, g1, h2.trans g2, fun id l hid hl => g3 id l hid (h3 id l hid hl)⟩
def Round {σ : Type} (C : Ctx) (N : Nat) (D : Dom) (k : Nat) (I : σ → St) (μ : σ → Nat) (m : Nat) (Φ : Ex → St → Prop) : Ex → St → Prop
 | .normal, S => ∃ s, Ent C N D k S (I s) ∧ μ s < m
 | e, S => Φ e S
theorem loop_ok {σ : Type} (K : CtxOK C P) (hm : P.follows .mixedOrders = true) {b : Code} (hb : codeOK b = true) (I : σ → St) (μ : σ → Nat) (s0 : σ) (h0 : Ent C W.nt D k S (I s0)) (p : List Nat)
  (round : ∀ s, Holds C P W.nt D k (Round C W.nt D k I μ (μ s) Φ) (vc C W b p (I s) fun e S' => .leaf e S')) : LoopOK C P W.nt D k b S Φ := by
 intro hD ρ A a w h bf kk cs hro hfn hroom
 have key : ∀ n s ρ1 A1 a1 w1, μ s = n → Rel C W.nt D (I s) ρ1 A1 a1 w1 → Evo w A (own ρ S.hp) w1 A1 (own ρ1 (I s).hp) → (∀ id l, id < k → ρ id = some l → ρ1 id = some l) →
   ∃ e a' w', Post C W.nt D k w A (own ρ S.hp) ρ Φ e a' w' ∧ ArrivesIn (Machine.fenced P (FR D.round)) P (lone (bf.atR a1 (.code b :: .inLoop b :: kk)) cs w1) bf kk cs e a' w' := by
  intro n
  induction n using Nat.strongRecOn with
  | _ n ih =>
   intro s ρ1 A1 a1 w1 hn hR hE hg
   have hwp := vc_wp K hm hD b p (I s) (fun e S' => .leaf e S') ρ1 A1 a1 w1 (Post C W.nt D k w1 A1 (own ρ1 (I s).hp) ρ1 (Round C W.nt D k I μ (μ s) Φ)) hb hR (round s)
    fun e S' ρ' A' a' w' he hR' hE' hg' => ⟨e, S', ρ', A', rfl, he, hR', hE', hg'⟩
   obtain ⟨ex, a2, w2, hq, harr⟩ := hwp bf (.inLoop b :: kk) cs hro hfn hroom
   obtain ⟨e, S2, ρ2, A2, rfl, h1, h2, h3, h4⟩ := hq
   have up : ∀ {e : Ex}, Φ e S2 → Post C W.nt D k w A (own ρ S.hp) ρ Φ (exOf e) a2 w2 := fun hΦ => ⟨_, S2, ρ2, A2, rfl, hΦ, h2, hE.trans h3, fun id l hid hl => h4 id l hid (hg id l hid hl)⟩
   cases e with
   | normal =>
    obtain ⟨s', g1, g2⟩ := h1
    obtain ⟨ρ3, A3, q1, q2, q3⟩ := g1 hD ρ2 A2 a2 w2 h2
    obtain ⟨e2, a3, w3, r1, r2⟩ := ih (μ s') (hn ▸ g2) s' ρ3 A3 a2 w2 rfl q1 ((hE.trans h3).trans q2) fun id l hid hl => q3 id l hid (h4 id l hid (hg id l hid hl))
    exact ⟨e2, a3, w3, r1, .of_steps (StepsIn.trans harr (.one (fenced_calm hfn hroom rfl) stepR_inLoop)) r2⟩
   | exit id => exact ⟨_, a2, w2, up h1, .pass (x := .inLoop b) rfl (fun _ _ => .inl (by simp [exOf])) harr⟩
   | ret => exact ⟨_, a2, w2, up h1, .pass (x := .inLoop b) rfl (fun _ _ => .inl (by simp [exOf])) harr⟩
 obtain ⟨ρ1, A1, q1, q2, q3⟩ := h0 hD ρ A a w h
 obtain ⟨e, a', w', r1, r2⟩ := key _ s0 ρ1 A1 a w rfl q1 q2 q3
 exact ⟨e, a', w', r1, .of_steps (.one (fenced_calm hfn hroom rfl) stepR_loop) r2⟩
end
end Go.Bu
namespace Go.Bu
def resOne (C : Ctx) (S : St) : ResultVar → Option AV
 | .tmp t => look S.tm t
 | .cell a t => match look S.tm a with
  | some (.pd x) => match fitsT C t x with | true => some x | false => none
  | some (.ptr id p) => match look S.hp id with
   | some (.c b) => match b.sub p with
    | some x => match fitsT C t x with | true => some x | false => none
    | none => none
   | _ => none
  | _ => none
def resAll (C : Ctx) (S : St) : List ResultVar → Option (List AV)
 | [] => some []
 | r :: q => match resOne C S r, resAll C S q with | some x, some l => some (x :: l) | _, _ => none
def resAV (C : Ctx) (S : St) (rs : List ResultVar) : Option AV :=
 match resAll C S rs with
 | some [x] => some x
 | some l => match noTups l with | true => some (.tup l) | false => none
 | none => none
section
variable {C : Ctx} {P : Program} {W : Way} {N : Nat} {D : Dom} {S : St} {ρ : Ren} {A : Nat → Prop} {a : Act} {w : World}
theorem resOne_run (K : CtxOK C P) (h : Rel C N D S ρ A a w) {r : ResultVar} {x : AV} (hr : resOne C S r = some x) :
  ∃ v, (match r with | .tmp t => (pure (a.tmps.getD t undef) : Sem Value) | .cell q t => do loadVar t (← asAddr (a.tmps.getD q undef))).run P w = .ok v w ∧ RT w A ρ x v := by
 cases r with
 | tmp t =>
  obtain ⟨v, h1, h2⟩ := h.tm t x hr
  exact ⟨v, by simp [h1], h2⟩
 | cell q t =>
  simp only [resOne] at hr
  split at hr
  ·rename_i y hy
   obtain ⟨u, h1, h2⟩ := h.tm q _ hy
   split at hr
   ·rename_i hf
    cases hr
    have hv := h2.leaf rfl
    cases hv with
    | pd g ha hm hr =>
     obtain ⟨v, h3, h4⟩ := run_loadVar_rep (w := w) K hf hm (hr.lift ρ)
     exact ⟨v, by simp [h1, asAddr, h3], h4.rt⟩
   ·cases hr
  ·rename_i id p hy
   obtain ⟨u, h1, h2⟩ := h.tm q _ hy
   split at hr
   ·rename_i b hb
    split at hr
    ·rename_i y hs
     split at hr
     ·rename_i hf
      cases hr
      have hv := h2.leaf rfl
      cases hv with
      | ptr hρ hvp =>
       obtain ⟨cs, el, fz, vs, rest, e1, e2, e3, e4, e5, hnr⟩ := h.block hb hρ
       obtain ⟨pre, us, post, e6, e7, e8⟩ := e4.part p ((e5.vp p).1 hvp) hs
       have hm := cell_of (us := us) (post := post ++ rest) (o := _) e1 (by rw [e3, e6, List.append_assoc, List.append_assoc]) (e7.trans (e5.off p hvp).symm)
       obtain ⟨v, h3, h4⟩ := run_loadVar_rep (w := w) K hf hm e8
       exact ⟨v, by simp [h1, asAddr, h3], h4.rt⟩
     ·cases hr
    ·cases hr
   ·cases hr
  ·cases hr
theorem resAll_run (K : CtxOK C P) (h : Rel C N D S ρ A a w) : ∀ {rs : List ResultVar} {l : List AV}, resAll C S rs = some l →
  ∃ vs : List Value, (rs.mapM fun (r : ResultVar) => (match r with | .tmp t => (pure (a.tmps.getD t undef) : Sem Value) | .cell q t => do loadVar t (← asAddr (a.tmps.getD q undef)))).run P w = .ok vs w ∧ vs.length = l.length ∧
   ∀ i x v, nth? l i = some x → nth? vs i = some v → RT w A ρ x v
 | [], l, hr => by
  cases hr
  exact ⟨[], by simp, rfl, fun i x v hx => by cases i <;> cases hx⟩
 | r :: q, l, hr => by
  simp only [resAll] at hr
  split at hr
  ·rename_i x l' hx hl
   cases hr
   obtain ⟨v, h1, h2⟩ := resOne_run K h hx
   obtain ⟨vs, h3, h4, h5⟩ := resAll_run K h hl
   refine ⟨v :: vs, ?_, by simp [h4], fun i y u hy hu => ?_⟩
   ·simp only [List.mapM_cons, Sem.run_bind, h1, Result.andThen_ok, h3]
    rfl
   ·cases i with
    | zero => cases hy; cases hu; exact h2
    | succ i => exact h5 i y u hy hu
  ·cases hr
theorem results_run (K : CtxOK C P) (h : Rel C N D S ρ A a w) {fn : Func} {r : AV} (hr : resAV C S fn.results.toList = some r) : ∃ v, (results fn a.tmps).run P w = .ok v w ∧ RT w A ρ r v := by
 unfold resAV at hr
 split at hr
 ·rename_i x hx
  cases hr
  obtain ⟨vs, h1, h2, h3⟩ := resAll_run K h hx
  match vs, h2 with
  | [v], _ =>
   refine ⟨v, ?_, h3 0 _ v rfl rfl⟩
   have h1' : (fn.results.mapM fun (r : ResultVar) => (match r with | .tmp t => (pure (a.tmps.getD t undef) : Sem Value) | .cell q t => do loadVar t (← asAddr (a.tmps.getD q undef)))).run P w = .ok #[v] w := by
    rw [Array.mapM_eq_mapM_toList]
    simp only [Sem.run_map, h1]
    rfl
   show (do let vs ← (fn.results.mapM fun (r : ResultVar) => (match r with | .tmp t => (pure (a.tmps.getD t undef) : Sem Value) | .cell q t => do loadVar t (← asAddr (a.tmps.getD q undef)))); pure (if h : vs.size = 1 then vs[0] else .tuple vs)).run P w = _
   simp only [Sem.run_bind, h1', Result.andThen_ok]
   rfl
 ·rename_i l hne hx
  split at hr
  ·rename_i hnt
   cases hr
   obtain ⟨vs, h1, h2, h3⟩ := resAll_run K h hx
   refine ⟨.tuple vs.toArray, ?_, vs, rfl, h2, fun i y u hy hu => (h3 i y u hy hu).rv fun l e => notTup (noTups_mem hnt i y hy) l e⟩
   have h1' : (fn.results.mapM fun (r : ResultVar) => (match r with | .tmp t => (pure (a.tmps.getD t undef) : Sem Value) | .cell q t => do loadVar t (← asAddr (a.tmps.getD q undef)))).run P w = .ok vs.toArray w := by
    rw [Array.mapM_eq_mapM_toList]
    simp only [Sem.run_map, h1]
    rfl
   show (do let vs ← (fn.results.mapM fun (r : ResultVar) => (match r with | .tmp t => (pure (a.tmps.getD t undef) : Sem Value) | .cell q t => do loadVar t (← asAddr (a.tmps.getD q undef)))); pure (if h : vs.size = 1 then vs[0] else .tuple vs)).run P w = _
   simp only [Sem.run_bind, h1', Result.andThen_ok]
   have hl : ¬ vs.toArray.size = 1 := fun e => by
    have e' : l.length = 1 := by rw [← h2]; simpa using e
    match l, e' with
    | [x], _ => exact hne x rfl
   rw [dif_neg hl]
   rfl
  ·cases hr
 ·cases hr
end
end Go.Bu
namespace Go.Bu
def paramTm : Nat → List AV → List (Nat × AV)
 | _, [] => []
 | i, x :: r => (i, x) :: paramTm (i + 1) r
def start (args : List AV) (H : List (Nat × Blk)) : St := { tm := paramTm 0 args, hp := H, seen := keysOf H }
def FunPost (C : Ctx) (N k : Nat) (rs : List ResultVar) (r : AV) (H' : List (Nat × Blk)) : Ex → St → Prop
 | .exit _, _ => False
 | _, S => ∃ S2 r', (∀ {D : Dom}, Ent C N D k S S2) ∧ resAV C S2 rs = some r' ∧ (∀ w A ρ v, RT w A ρ r' v → RT w A ρ r v) ∧ ∀ id b, look H' id = some b → look S2.hp id = some b
theorem HeapRel.sub {w : World} {A : Nat → Prop} {ρ : Ren} {H H' : List (Nat × Blk)} (h : HeapRel w A ρ H) (hs : ∀ id b, look H' id = some b → look H id = some b) : HeapRel w A ρ H' := by
 have hn : ∀ id, look H' id ≠ none → look H id ≠ none := fun id h1 => by
  cases hb : look H' id with
  | none => exact absurd hb h1
  | some b => rw [hs id b hb]; simp
 exact ⟨fun id k hk => h.blk id k (hs id k hk), fun id id' l l' h1 h2 => h.inj id id' l l' (hn id h1) (hn id' h2), fun id l h1 => h.apart id l (hn id h1)⟩
theorem own_sub {ρ : Ren} {H H' : List (Nat × Blk)} (hs : ∀ id b, look H' id = some b → look H id = some b) {b : Nat} (h : own ρ H' b) : own ρ H b := by
 obtain ⟨id, l, h1, h2, h3⟩ := h
 refine ⟨id, l, ?_, h2, h3⟩
 cases hb : look H' id with
 | none => exact absurd hb h1
 | some b => rw [hs id b hb]; simp
theorem look_param : ∀ {l : List AV} {i t : Nat} {x : AV}, look (paramTm i l) t = some x → i ≤ t ∧ nth? l (t - i) = some x
 | [], i, t, x, h => by simp [paramTm, look] at h
 | y :: r, i, t, x, h => by
  simp only [paramTm, look] at h
  split at h
  ·rename_i hb; obtain rfl := beq_iff.1 hb; cases h; exact ⟨Nat.le_refl _, by simp [nth?]⟩
  ·rename_i hb
   obtain ⟨h1, h2⟩ := look_param h
   refine ⟨by omega, ?_⟩
   rw [show t - i = (t - (i + 1)) + 1 by omega]
   exact h2
theorem Rel.keeps_put {C : Ctx} {N : Nat} {D : Dom} {S : St} {ρ : Ren} {A : Nat → Prop} {a : Act} {w : World} (_ : Rel C N D S ρ A a w) {i : Nat} {o : Obj} (o' : Obj) (hi : w.heap[i]? = some o) (ho : ∀ c e fz, o ≠ .cells c e fz) (hA : ¬ A i) : Keeps w A ρ (w.putObj i o') A ρ := by
 have hne : ∀ b c e fz, w.heap[b]? = some (.cells c e fz) → b ≠ i := fun b c e fz hb e1 => by subst e1; rw [hi] at hb; cases hb; exact ho _ _ _ rfl
 exact ⟨fun b hb => ⟨hb, World.putObj_heap_other fun e => hA (e ▸ hb)⟩, fun _ _ h => h, fun b c e fz hb => ⟨c, fz, (World.putObj_heap_other (hne b c e fz hb)).trans hb, rfl⟩⟩
theorem Rel.shut {C : Ctx} {N : Nat} {D : Dom} {S : St} {ρ : Ren} {A : Nat → Prop} {a : Act} {w : World} (h : Rel C N D S ρ A a w) {i : Nat} {o : Obj} (o' : Obj) (hi : w.heap[i]? = some o) (ho : ∀ c e fz, o ≠ .cells c e fz) (hA : ¬ A i) (l : List Deferred) (hm : MarksOK D ρ A (w.putObj i o') l) :
  Rel C N D S ρ A { a with defers := l } (w.putObj i o') := by
 have hne : ∀ b c e fz, w.heap[b]? = some (.cells c e fz) → b ≠ i := fun b c e fz hb e1 => by subst e1; rw [hi] at hb; cases hb; exact ho _ _ _ rfl
 have kp : Keeps w A ρ (w.putObj i o') A ρ := ⟨fun b hb => ⟨hb, World.putObj_heap_other fun e => hA (e ▸ hb)⟩, fun _ _ h => h, fun b c e fz hb => ⟨c, fz, (World.putObj_heap_other (hne b c e fz hb)).trans hb, rfl⟩⟩
 refine ⟨fun t x hx => ?_, h.nt, hm, ⟨fun id b hb => ?_, h.hp.inj, h.hp.apart⟩, fun b hb => by rw [World.putObj_size]; exact h.Ab b hb, fun id l hl => ⟨by rw [World.putObj_size]; exact (h.rb id l hl).1, (h.rb id l hl).2⟩, h.sn, fun g x hg => (h.gl g x hg).keep kp⟩
 ·obtain ⟨v, hv, hr⟩ := h.tm t x hx; exact ⟨v, hv, hr.keep kp⟩
 ·rcases h.hp.blk id b hb with ⟨l, h1, h2, h3⟩ | h1
  ·refine .inl ⟨l, h1, ?_, h3⟩
   cases b with
   | m => exact h2.elim
   | c t => obtain ⟨cs, el, fz, vs, rest, e1, e2, e3, e4, e5⟩ := h2; exact ⟨cs, el, fz, vs, rest, (World.putObj_heap_other (hne _ _ _ _ e1)).trans e1, e2, e3, e4.keep kp, e5⟩
  ·exact .inr h1
theorem Evo.shut {w0 w : World} {A0 O0 A O : Nat → Prop} (h : Evo w0 A0 O0 w A O) {i : Nat} (o : Obj) (hi : w0.heap.size ≤ i) : Evo w0 A0 O0 (w.putObj i o) A O :=
 ⟨by rw [World.putObj_size]; exact h.size, h.os, h.tape, h.output, fun b hb hO => (World.putObj_heap_other (by omega)).trans (h.keep b hb hO), fun b c e fz hb => by
  have hlt : b < w0.heap.size := (Array.getElem?_eq_some_iff.1 hb).1
  obtain ⟨c', fz', h1, h2⟩ := h.cells b c e fz hb
  exact ⟨c', fz', (World.putObj_heap_other (by omega)).trans h1, h2⟩, h.stay, h.Anew, h.Onew⟩
theorem leaves_of {C : Ctx} {P : Program} {N : Nat} {D : Dom} {S : St} {ρ : Ren} {A : Nat → Prop} {fn : Func} {tmps : Array Value} {R : Ending → World → Prop} : ∀ (l : List Deferred) (a : Act) (w : World), a.defers = l → a.tmps = tmps → Rel C N D S ρ A a w →
  (∀ a' w', a'.tmps = tmps → Rel C N D S ρ A a' w' → (∀ {w0 : World} {A0 O0 : Nat → Prop}, w0.heap.size = D.base → Evo w0 A0 O0 w A (own ρ S.hp) → Evo w0 A0 O0 w' A (own ρ S.hp)) → ∃ v, (results fn tmps).run P w' = .ok v w' ∧ R (.returned v) w') →
  LeavesInM (FR none) 0 P fn tmps R l .returning w
 | [], a, w, hd, ht, hR, h => h a w ht hR fun _ he => he
 | d :: l, a, w, hd, ht, hR, h => by
  have hm : MarksOK D ρ A w (d :: l) := hd ▸ hR.df
  obtain ⟨r, h1, h2, h3, h4⟩ := hm.each d List.mem_cons_self
  have hdiff := List.pairwise_cons.1 hm.diff
  have hm' : MarksOK D ρ A (w.putObj r (.deferred none)) l := by
   refine ⟨fun d' hd' => ?_, hdiff.2, D.stab hm.ex (hR.keeps_put _ h4 (fun _ _ _ e => by cases e) h3), fun i q hq => ⟨(hm.rc i q hq).1, (World.putObj_heap_other fun e => ?_).trans (hm.rc i q hq).2⟩, by rw [World.putObj_size]; exact hm.bs⟩
   ·obtain ⟨r', g1, g2, g3, g4⟩ := hm.each d' (List.mem_cons_of_mem _ hd')
    refine ⟨r', g1, g2, g3, (World.putObj_heap_other fun e => hdiff.1 d' hd' ?_).trans g4⟩
    rw [h1, g1, e]
   ·subst e; have := (hm.rc i q hq).2; rw [h4] at this; cases this
  have hR' := hR.shut (.deferred none) h4 (fun _ _ _ e => by cases e) h3 l hm'
  exact ⟨by simp, .inl ⟨r, _, h1, run_takeDeferred h4, leaves_of l { a with defers := l } _ rfl ht hR' fun a' w' q1 q2 q3 => h a' w' q1 q2 fun hs he => q3 hs (he.shut _ (by omega))⟩⟩
def FunE (C : Ctx) (P : Program) (ext : Ren → (Nat → Prop) → World → Prop) (rc : Option (Nat × Loop)) (kk : Nat) (g : FuncId) (args : List AV) (H : List (Nat × Blk)) (r : AV) (H' : List (Nat × Blk)) : Prop :=
 ∀ (ρ : Ren) (A : Nat → Prop) (w : World) (vs : List Value), vs.length = args.length → (∀ i x v, nth? args i = some x → nth? vs i = some v → RV w A ρ x v) → HeapRel w A ρ H →
  (∀ b, A b → b < w.heap.size) → (∀ id l, ρ id = some l → l.b < w.heap.size ∧ look H id ≠ none) → (∀ g x, C.gl g = some x → RV w A ρ (.pd x) (.pointer (some ⟨g, 0, none⟩))) →
  ext ρ A w → (∀ i q, rc = some (i, q) → ¬ A i ∧ w.heap[i]? = some (.loop q)) →
  Does P g vs.toArray w fun v w' => ∃ ρ' A', RT w' A' ρ' r v ∧ HeapRel w' A' ρ' H' ∧ (∀ id l, id < kk → ρ id = some l → ρ' id = some l) ∧ (∀ b, A' b → b < w'.heap.size) ∧
   (∀ id l, ρ' id = some l → l.b < w'.heap.size) ∧ Evo w A (own ρ H) w' A' (own ρ' H')
theorem fun_ofE {C : Ctx} {P : Program} {W : Way} (K : CtxOK C P) (hm : P.follows .mixedOrders = true) {g : FuncId} {fn : Func} {c : Code} (hf : P.funcs[g]? = some fn) (hb : fn.body = some c) (hn : (fn.name == "runtime.NumGoroutine") = false) (hok : codeOK c = true)
  (hnt : fn.ntmps = W.nt) {args : List AV} {H : List (Nat × Blk)} {r : AV} {H' : List (Nat × Blk)} (hl : args.length ≤ W.nt) (_hno : noTups args = true) (k : Nat)
  {ext : Ren → (Nat → Prop) → World → Prop} (stab : ∀ {ρ A w ρ' A' w'}, ext ρ A w → Keeps w A ρ w' A' ρ' → ext ρ' A' w') (rc : Option (Nat × Loop)) (hfix : ∀ (ρ ρ' : Ren) (A : Nat → Prop) (w : World), ext ρ A w → (∀ id l, id < k → ρ id = some l → ρ' id = some l) → ext ρ' A w)
  (hv : ∀ n, Holds C P W.nt { base := n, ext := ext, stab := stab, rc := rc } k (FunPost C W.nt k fn.results.toList r H') (vc C W c [] (start args H) fun e S => .leaf e S)) : FunE C P ext rc k g args H r H' := by
 intro ρ A w vs hlen hrv hH hAb hrb hgl hex hrc
 have hcall : (callFunc g vs.toArray).run P w = .ok (.enter g vs.toArray) w := by
  have hn' : fn.name ≠ "runtime.NumGoroutine" := by simpa using hn
  simp [callFunc, hf, hn', hb]
 unfold Does
 rw [hcall]
 dsimp only
 refine (callsIn_wide (n := 0)).1 (callsIn_of_wp_marks (F := FR none) (n := 0) hf hb trivial ?_)
 have hR : Rel C W.nt { base := w.heap.size, ext := ext, stab := stab, rc := rc } (start args H) ρ A { tmps := vs.toArray ++ Array.replicate (fn.ntmps - vs.toArray.size) undef, defers := [] } w := by
  refine ⟨fun t x hx => ?_, by simp; omega, ⟨fun d h => (by cases h), .nil, hex, hrc, Nat.le_refl _⟩, hH, hAb, fun id l hl => ⟨(hrb id l hl).1, memb_keysOf.2 (hrb id l hl).2⟩, fun id hid => memb_keysOf.2 hid, hgl⟩
  obtain ⟨_, h2⟩ := look_param hx
  rw [Nat.sub_zero] at h2
  have hlt := nth?_lt h2
  obtain ⟨v, hv⟩ := nth?_some (l := vs) (i := t) (by omega)
  refine ⟨v, ?_, (hrv t x v h2 hv).rt⟩
  rw [nth?_get] at hv
  have hlt' : t < vs.toArray.size := by simp; omega
  rw [Array.getElem?_append_left hlt']
  simpa using hv
 refine vc_wp (D := { base := w.heap.size, ext := ext, stab := stab, rc := rc }) K hm hfix c [] (start args H) _ ρ A _ w _ hok hR (hv _) fun e S' ρ' A' a' w' he hR' hE hg => ?_
 have fin : ∀ {R : Ending → World → Prop}, (∀ v w'', (∃ ρ' A', RT w'' A' ρ' r v ∧ HeapRel w'' A' ρ' H' ∧ (∀ id l, id < k → ρ id = some l → ρ' id = some l) ∧ (∀ b, A' b → b < w''.heap.size) ∧
   (∀ id l, ρ' id = some l → l.b < w''.heap.size) ∧ Evo w A (own ρ H) w'' A' (own ρ' H')) → R (.returned v) w'') → FunPost C W.nt k fn.results.toList r H' .ret S' → LeavesInM (FR none) 0 P fn a'.tmps R a'.defers .returning w' := by
  intro R hRR
  rintro ⟨S2, r', h1, h2, h3, h4⟩
  obtain ⟨ρ2, A2, q1, q2, q3⟩ := @h1 { base := w.heap.size, ext := ext, stab := stab, rc := rc } hfix ρ' A' a' w' hR'
  refine leaves_of a'.defers a' w' rfl rfl q1 fun a'' w'' ht q4 hev => ?_
  obtain ⟨v, h5, h6⟩ := results_run K q4 h2
  rw [ht] at h5
  refine ⟨v, h5, hRR v w'' ⟨ρ2, A2, h3 _ _ _ _ h6, q4.hp.sub h4, fun id l hid hl => q3 id l hid (hg id l hid hl), q4.Ab, fun id l hl => (q4.rb id l hl).1, ?_⟩⟩
  ·have := hev rfl (hE.trans q2)
   exact ⟨this.size, this.os, this.tape, this.output, this.keep, this.cells, this.stay, this.Anew, fun b hb => this.Onew b (own_sub h4 hb)⟩
 cases e with
 | normal => exact fin (fun v w'' h => h) he
 | ret => exact fin (fun v w'' h => h) he
 | exit j => exact he.elim
theorem fun_of {C : Ctx} {P : Program} {W : Way} (K : CtxOK C P) (hm : P.follows .mixedOrders = true) {g : FuncId} {fn : Func} {c : Code} (hf : P.funcs[g]? = some fn) (hb : fn.body = some c) (hn : (fn.name == "runtime.NumGoroutine") = false) (hok : codeOK c = true)
  (hnt : fn.ntmps = W.nt) {args : List AV} {H : List (Nat × Blk)} {r : AV} {H' : List (Nat × Blk)} (hl : args.length ≤ W.nt) (_hno : noTups args = true) (k : Nat) (hk : ∀ id, look H id ≠ none → id < k)
  (hv : ∀ D, Holds C P W.nt D k (FunPost C W.nt k fn.results.toList r H') (vc C W c [] (start args H) fun e S => .leaf e S)) : Fun C P g args H r H' :=
 fun ρ A w vs hlen hrv hH hAb hrb hgl => (fun_ofE K hm hf hb hn hok hnt hl _hno k (ext := fun _ _ _ => True) (fun _ _ => trivial) none (fun _ _ _ _ _ _ => trivial) (fun n => hv _) ρ A w vs hlen hrv hH hAb hrb hgl trivial (fun i q h => by cases h)).mono
  fun v w' ⟨ρ', A', r1, r2, r3, r4⟩ => ⟨ρ', A', r1, r2, fun id l hl => r3 id l (hk id (hrb id l hl).2) hl, r4⟩
end Go.Bu
namespace Go.Bu
def valB : Value → Value → Bool
 | .int k a, .int k' b => kEq k k' && (a == b)
 | .bool a, .bool b => a == b
 | .string a, .string b => a.data == b.data
 | .pointer none, .pointer none => true
 | .nilFunc, .nilFunc => true
 | .nilIface, .nilIface => true
 | .map none, .map none => true
 | _, _ => false
def repZ : Nat → AV → List Value → Bool
 | 0, _, _ => false
 | _ + 1, .v x, [y] => valB x y
 | _ + 1, .dat 0 true _ _, [.slice none 0 0] => true
 | n + 1, .st fs, vs => repZs n fs vs
 | n + 1, .arr m e f, vs => repZn n m e f vs
 | _, _, _ => false
where
 repZs : Nat → List AV → List Value → Bool
  | 0, _, _ => false
  | _ + 1, [], vs => vs.isEmpty
  | n + 1, x :: r, vs => repZ n x (vs.take x.size) && repZs n r (vs.drop x.size) && Nat.ble x.size vs.length
 repZn : Nat → Nat → Nat → (Nat → AV) → List Value → Bool
  | 0, _, _, _, _ => false
  | _ + 1, 0, _, _, vs => vs.isEmpty
  | n + 1, m + 1, e, f, vs => repZn n m e f (vs.take (m * e)) && repZ n (f m) (vs.drop (m * e)) && Nat.beq vs.length ((m + 1) * e)
theorem valB_eq {x y : Value} (h : valB x y = true) : x = y ∧ nota x = true := by
 unfold valB at h
 split at h
 ·simp only [Bool.and_eq_true, beq_iff_eq] at h
  exact ⟨by rw [kEq_iff.1 h.1, h.2], rfl⟩
 ·exact ⟨by rw [beq_iff_eq.1 h], rfl⟩
 ·rename_i a b
  refine ⟨?_, rfl⟩
  have := beq_iff_eq.1 h
  cases a; cases b; simp at this; rw [this]
 ·exact ⟨rfl, rfl⟩
 ·exact ⟨rfl, rfl⟩
 ·exact ⟨rfl, rfl⟩
 ·exact ⟨rfl, rfl⟩
 ·cases h
section
variable {w : World} {A : Nat → Prop} {ρ : Ren}
theorem rep_cons {x : AV} {r : List AV} {us rest : List Value} (h : Rep w A ρ x us) (hr : Rep w A ρ (.st r) rest) : Rep w A ρ (.st (x :: r)) (us ++ rest) := by
 cases hr with
 | st g hg e =>
  refine .st (fun i => match i with | 0 => us | i + 1 => g i) (fun i y hy => ?_) ?_
  ·cases i with
   | zero => cases hy; exact h
   | succ i => exact hg i y hy
  ·rw [List.length_cons, flat_cons, e]
theorem rep_snoc {n e : Nat} {f : Nat → AV} {us rest : List Value} (h : Rep w A ρ (.arr n e f) us) (hl : rest.length = e) (hr : Rep w A (fun _ => none) (f n) rest) : Rep w A ρ (.arr (n + 1) e f) (us ++ rest) := by
 cases h with
 | arr g hg hr0 e0 =>
  refine .arr (fun i => if i < n then g i else rest) (fun i hi => ?_) (fun i hi => ?_) ?_
  ·by_cases h1 : i < n
   ·simpa [h1] using hg i h1
   ·simpa [h1] using hl
  ·by_cases h1 : i < n
   ·simpa [h1] using hr0 i h1
   ·have : i = n := by omega
    subst this; simpa [h1] using hr
  ·rw [flat, flat_congr (h := g) fun i hi => by simp [hi]]
   simp [e0]
theorem rep_arr0 {e : Nat} {f : Nat → AV} : Rep w A ρ (.arr 0 e f) [] := .arr (fun _ => []) (fun i hi => by omega) (fun i hi => by omega) rfl
theorem rep_st0 : Rep w A ρ (.st []) [] := .st (fun _ => []) (fun i x hx => by cases i <;> cases hx) rfl
theorem repZ_all : ∀ n, (∀ x vs, repZ n x vs = true → ∀ ρ : Ren, Rep w A ρ x vs) ∧ (∀ fs vs, repZ.repZs n fs vs = true → ∀ ρ : Ren, Rep w A ρ (.st fs) vs) ∧ (∀ m e f vs, repZ.repZn n m e f vs = true → ∀ ρ : Ren, Rep w A ρ (.arr m e f) vs)
 | 0 => ⟨fun x vs h => by simp [repZ] at h, fun fs vs h => by simp [repZ.repZs] at h, fun m e f vs h => by simp [repZ.repZn] at h⟩
 | n + 1 => by
  obtain ⟨i1, i2, i3⟩ := repZ_all n
  refine ⟨fun x vs h ρ => ?_, fun fs vs h ρ => ?_, fun m e f vs h ρ => ?_⟩
  ·unfold repZ at h
   split at h
   ·cases h
   ·rename_i hh; cases hh; obtain ⟨e, hn⟩ := valB_eq h; subst e; exact .v hn
   ·exact .dat0 fun _ => rfl
   ·rename_i hh; cases hh; exact i2 _ _ h ρ
   ·rename_i hh; cases hh; exact i3 _ _ _ _ h ρ
   ·cases h
  ·cases fs with
   | nil =>
    simp only [repZ.repZs, List.isEmpty_iff] at h
    subst h; exact rep_st0
   | cons x r =>
    simp only [repZ.repZs, Bool.and_eq_true] at h
    have := rep_cons (i1 _ _ h.1.1 ρ) (i2 _ _ h.1.2 ρ)
    rwa [List.take_append_drop] at this
  ·cases m with
   | zero =>
    simp only [repZ.repZn, List.isEmpty_iff] at h
    subst h; exact rep_arr0
   | succ m =>
    simp only [repZ.repZn, Bool.and_eq_true] at h
    have hl := beq_iff.1 h.2
    have := rep_snoc (i3 _ _ _ _ h.1.1 ρ) (by rw [List.length_drop, hl, Nat.succ_mul]; omega) (i1 _ _ h.1.2 fun _ => none)
    rwa [List.take_append_drop] at this
end
end Go.Bu
namespace Go.Bu
def fieldsB : List Field → List (Nat × Nat) → Bool
 | [], [] => true
 | f :: r, (t, o) :: q => Nat.beq f.type t && Nat.beq f.offset o && !(f.name == "_") && fieldsB r q
 | _, _ => false
def tdB (d : Option TypeDesc) (x : TD) : Bool :=
 match x, d with
 | .other, _ => true
 | .int k, some (.int k') => kEq k' k
 | .bool, some .bool => true
 | .str, some .string => true
 | .slice e, some (.slice e') => Nat.beq e' e
 | .array n e _, some (.array n' e') => Nat.beq n' n && Nat.beq e' e
 | .struct fs, some (.struct fields) => fieldsB fields.toList fs
 | .map k e, some (.map k' e') => Nat.beq k' k && Nat.beq e' e
 | .ptr e, some (.pointer e') => Nat.beq e' e
 | .func, some (.func _ _ _) => true
 | .iface, some (.interface _) => true
 | _, _ => false
theorem fieldsB_ok : ∀ {l : List Field} {fs : List (Nat × Nat)}, fieldsB l fs = true → l.map (fun f => (f.type, f.offset)) = fs ∧ ∀ f ∈ l, f.name ≠ "_"
 | [], [], _ => ⟨rfl, fun f hf => by cases hf⟩
 | [], _ :: _, h => by simp [fieldsB] at h
 | _ :: _, [], h => by simp [fieldsB] at h
 | f :: r, (t, o) :: q, h => by
  simp only [fieldsB, Bool.and_eq_true] at h
  obtain ⟨⟨⟨h1, h2⟩, h3⟩, h4⟩ := h
  obtain ⟨h5, h6⟩ := fieldsB_ok h4
  refine ⟨by simp [h5, beq_iff.1 h1, beq_iff.1 h2], fun g hg => ?_⟩
  rcases List.mem_cons.1 hg with rfl | hg
  ·simpa using h3
  ·exact h6 g hg
theorem tdB_ok {P : Program} {t : Nat} {x : TD} (h : tdB (P.underlying t) x = true) : tdOK P t x := by
 unfold tdB at h
 split at h <;> simp only [tdOK]
 all_goals try (cases h; done)
 all_goals simp_all [kEq_iff]
 ·rename_i fs fields hu
  exact ⟨fieldsB_ok h |>.1, fun f hf => (fieldsB_ok h).2 f (by simpa using hf)⟩
def zeroB (x : AV) (z : Value) : Bool :=
 match leaf x with
 | true => repZ 300 x [z]
 | false => match z with | .agg cs => repZ 300 x cs.toList | _ => false
theorem zeroB_ok {x : AV} {z : Value} (h : zeroB x z = true) : ∀ w A ρ, RV w A ρ x z := fun w A ρ => by
 unfold zeroB at h
 split at h
 ·rename_i hl; exact .inl ⟨hl, (repZ_all 300).1 _ _ h ρ⟩
 ·rename_i hl
  split at h
  ·rename_i cs; exact .inr ⟨hl, cs.toList, by simp, (repZ_all 300).1 _ _ h ρ⟩
  ·cases h
def infoB (P : Program) (C : Ctx) (t : Nat) : Bool :=
 match (C.tt t).d.known with
 | false => true
 | true => match P.info? t with
  | none => false
  | some i => Nat.beq i.size (C.tt t).size && Nat.beq i.bytes (C.tt t).bytes && fitsT C t (zeroAV C.tt 9 t) && (match i.zero with | some z => zeroB (zeroAV C.tt 9 t) z | none => false)
def heldB (P : Program) (C : Ctx) (t : Nat) : Bool := match (C.tt t).d with | .struct _ => !(P.stoodInHeld t) | _ => true
def eqgB (P : Program) (C : Ctx) (t : Nat) : Bool := match ptrFree C.tt 9 t with | true => !(P.eqGuardType P.depth t) | false => true
def ttOf (l : List TI) (t : Nat) : TI := nthD l t ⟨.other, 0, 0⟩
theorem nthD_out {α : Type} {d : α} : ∀ {l : List α} {i : Nat}, l.length ≤ i → nthD l i d = d
 | [], i, _ => by cases i <;> rfl
 | x :: r, 0, h => by simp at h
 | x :: r, i + 1, h => nthD_out (l := r) (by simpa using h)
theorem ctx_ok {P : Program} {l : List TI} {gl : Nat → Option AV} (h1 : (List.range l.length).all (fun t => tdB (P.underlying t) (ttOf l t).d) = true) (h2 : (List.range l.length).all (fun t => eqgB P ⟨ttOf l, gl⟩ t) = true)
  (h3 : (List.range l.length).all (fun t => heldB P ⟨ttOf l, gl⟩ t) = true) (h4 : (List.range l.length).all (fun t => infoB P ⟨ttOf l, gl⟩ t) = true) : CtxOK ⟨ttOf l, gl⟩ P := by
 have out : ∀ t, ¬ t < l.length → ttOf l t = ⟨.other, 0, 0⟩ := fun t ht => nthD_out (by omega)
 refine ⟨fun t => ?_, fun t hp => ?_, fun t fs hd => ?_, fun t hk => ?_⟩
 ·by_cases ht : t < l.length
  ·exact tdB_ok (List.all_eq_true.1 h1 t (List.mem_range.2 ht))
  ·show tdOK P t (ttOf l t).d
   rw [out t ht]; trivial
 ·by_cases ht : t < l.length
  ·have := List.all_eq_true.1 h2 t (List.mem_range.2 ht)
   unfold eqgB at this
   dsimp only at this hp
   rw [hp] at this
   simpa using this
  ·dsimp only [ptrFree] at hp
   rw [out t ht] at hp
   cases hp
 ·by_cases ht : t < l.length
  ·have := List.all_eq_true.1 h3 t (List.mem_range.2 ht)
   unfold heldB at this
   dsimp only at this hd
   rw [hd] at this
   simpa using this
  ·dsimp only at hd
   rw [out t ht] at hd
   cases hd
 ·by_cases ht : t < l.length
  ·have := List.all_eq_true.1 h4 t (List.mem_range.2 ht)
   unfold infoB at this
   dsimp only at this hk
   rw [hk] at this
   dsimp only at this
   split at this
   ·cases this
   ·rename_i i hi
    simp only [Bool.and_eq_true] at this
    obtain ⟨⟨⟨g1, g2⟩, g3⟩, g4⟩ := this
    split at g4
    ·rename_i z hz
     exact ⟨i, z, hi, beq_iff.1 g1, beq_iff.1 g2, hz, zeroB_ok g4, g3⟩
    ·cases g4
  ·dsimp only at hk
   rw [out t ht] at hk
   cases hk
end Go.Bu
namespace Go.Bu
def sim : (Nat → Option Nat) → AV → AV → Prop
 | _, .v x, y => match y with | .v x' => x = x' | .sb b => x = .bool b | _ => False
 | _, .sb b, y => match y with | .sb b' => b = b' | .v x => x = .bool b | _ => False
 | m, .st fs, .st gs => sims m fs gs
 | _, .st fs, .arr n e f => n = fs.length ∧ sizesAll e fs = true ∧ AV.noid.noids fs = true ∧ ∀ i x, nth? fs i = some x → f i = x
 | _, .arr n e f, .arr n' e' g => n = n' ∧ e = e' ∧ ∀ i, i < n → f i = g i ∨ sim (fun _ => none) (f i) (g i)
 | _, .dat n ex e f, .dat n' ex' e' g => n = n' ∧ (ex' = true → ex = true) ∧ (n = 0 ∨ e = e') ∧ ∀ i, i < n → f i = g i ∨ sim (fun _ => none) (f i) (g i)
 | _, .dat n ex _ _, .sl _ _ _ k c _ _ => n = 0 ∧ ex = true ∧ k = 0 ∧ c = 0
 | m, .sl id p o n c ex e, .sl id' p' o' n' c' ex' e' => m id = some id' ∧ p = p' ∧ o = o' ∧ n = n' ∧ n ≤ c' ∧ c' ≤ c ∧ (ex' = true → ex = true ∧ c' = c) ∧ e = e'
 | m, .ptr id p, .ptr id' p' => m id = some id' ∧ p = p'
 | _, .pd x, .pd y => x = y ∨ sim (fun _ => none) x y
 | m, .mp id, .mp id' => m id = some id'
 | m, .fn f fs, .fn g gs => f = g ∧ sims m fs gs
 | m, .ifc t x, .ifc t' y => t = t' ∧ ((x.noid = true ∧ x = y) ∨ sim m x y)
 | m, .tup fs, .tup gs => sims m fs gs
 | _, _, _ => False
where sims : (Nat → Option Nat) → List AV → List AV → Prop
 | _, [], [] => True
 | m, x :: r, y :: q => ((x.noid = true ∧ x = y) ∨ sim m x y) ∧ sims m r q
 | _, _, _ => False
abbrev simR (m : Nat → Option Nat) (x y : AV) : Prop := (x.noid = true ∧ x = y) ∨ sim m x y
theorem sims_get {m : Nat → Option Nat} : ∀ {fs gs : List AV}, sim.sims m fs gs → fs.length = gs.length ∧ ∀ i y, nth? gs i = some y → ∃ x, nth? fs i = some x ∧ simR m x y
 | [], [], _ => ⟨rfl, fun i y h => by cases i <;> cases h⟩
 | x :: r, y :: q, h => by
  obtain ⟨h1, h2⟩ := h
  obtain ⟨h3, h4⟩ := sims_get h2
  refine ⟨by simp [h3], fun i z hz => ?_⟩
  cases i with
  | zero => cases hz; exact ⟨x, rfl, h1⟩
  | succ i => exact h4 i z hz
 | [], _ :: _, h => h.elim
 | _ :: _, [], h => h.elim
theorem sim_leaf : ∀ {m : Nat → Option Nat} {x y : AV}, sim m x y → leaf y = leaf x := by
 intro m x y h
 cases x <;> cases y <;> first | rfl | exact h.elim
theorem simR_leaf {m : Nat → Option Nat} {x y : AV} (h : simR m x y) : leaf y = leaf x := by
 rcases h with ⟨_, h⟩ | h
 ·rw [h]
 ·exact sim_leaf h
section
variable {w : World} {A : Nat → Prop}
theorem noids_nth : ∀ {fs : List AV}, AV.noid.noids fs = true → ∀ i x, nth? fs i = some x → x.noid = true
 | [], _, i, x, hx => by cases i <;> cases hx
 | y :: r, hn, i, x, hx => by
  simp only [AV.noid.noids] at hn
  split at hn
  ·cases i with
   | zero => simp only [nth?] at hx; cases hx; assumption
   | succ i => exact noids_nth hn i x hx
  ·cases hn
theorem Rep.sim {ρ : Ren} {x : AV} {vs : List Value} (h : Rep w A ρ x vs) : ∀ {m : Nat → Option Nat} {ρ2 : Ren} {y : AV}, Bu.sim m x y → (∀ k k' l, m k = some k' → ρ k = some l → ρ2 k' = some l) → Rep w A ρ2 y vs := by
 induction h with
 | @v ρ x hn =>
  intro m ρ2 y hs hm
  cases y <;> simp only [Bu.sim] at hs <;> subst hs
  ·exact .v hn
  ·exact .sb
 | sb =>
  intro m ρ2 y hs hm
  cases y <;> simp only [Bu.sim] at hs <;> subst hs
  ·exact .v rfl
  ·exact .sb
 | st g h e ih =>
  intro m ρ2 y hs hm
  cases y <;> simp only [Bu.sim] at hs
  ·obtain ⟨h1, h2⟩ := sims_get hs
   refine .st g (fun i y hy => ?_) (by rw [← h1]; exact e)
   obtain ⟨x, hx, hxy⟩ := h2 i y hy
   rcases hxy with ⟨hn, rfl⟩ | hxy
   ·exact (h i x hx).noid hn _
   ·exact ih i x hx hxy hm
  ·obtain ⟨rfl, h2, h3, h4⟩ := hs
   refine .arr g (fun i hi => ?_) (fun i hi => ?_) e
   ·obtain ⟨x, hx⟩ := nth?_some hi
    rw [(h i x hx).len, sizesAll_mem h2 i x hx]
   ·obtain ⟨x, hx⟩ := nth?_some hi
    rw [h4 i x hx]
    exact (h i x hx).noid (noids_nth h3 i x hx) _
 | arr g hl h e ih =>
  intro m ρ2 y hs hm
  cases y <;> simp only [Bu.sim] at hs
  obtain ⟨rfl, rfl, h3⟩ := hs
  refine .arr g hl (fun i hi => ?_) e
  rcases h3 i hi with q | q
  ·rw [← q]; exact h i hi
  ·exact ih i hi q fun _ _ _ h _ => by cases h
 | dat0 h =>
  intro m ρ2 y hs hm
  cases y <;> simp only [Bu.sim] at hs
  ·obtain ⟨h1, h2, h3, h4⟩ := hs; subst h1; exact .dat0 fun hx => h (h2 hx)
  ·obtain ⟨_, h2, h3, h4⟩ := hs; subst h3 h4; rw [h h2]; exact .sl0
 | dat g ha hc hex hl hm0 h ih =>
  intro m ρ2 y hs hm
  cases y <;> simp only [Bu.sim] at hs
  ·obtain ⟨rfl, h2, h3, h4⟩ := hs
   rcases h3 with rfl | rfl
   ·exact .dat0 fun hx => hex (h2 hx)
   ·refine .dat g ha hc (fun hx => hex (h2 hx)) hl hm0 fun i hi => ?_
    rcases h4 i hi with q | q
    ·rw [← q]; exact h i hi
    ·exact ih i hi q fun _ _ _ h _ => by cases h
  ·obtain ⟨h1, h2, h3, h4⟩ := hs; subst h1 h3 h4; rw [hex h2]; exact .sl0
 | pd g ha hm0 h ih =>
  intro m ρ2 y hs hm
  cases y <;> simp only [Bu.sim] at hs
  rcases hs with rfl | hs
  ·exact .pd g ha hm0 h
  ·exact .pd g ha hm0 (ih hs fun _ _ _ h _ => by cases h)
 | sl0 =>
  intro m ρ2 y hs hm
  cases y <;> simp only [Bu.sim] at hs
  obtain ⟨h1, rfl, rfl, h4, h5, h6, h7, rfl⟩ := hs
  subst h4
  obtain rfl : _ = 0 := Nat.le_zero.1 h6
  exact .sl0
 | sl hr0 h1 h2 h3 h4 h5 =>
  intro m ρ2 y hs hm
  cases y <;> simp only [Bu.sim] at hs
  obtain ⟨g1, rfl, rfl, rfl, g5, g6, g7, rfl⟩ := hs
  exact .sl (hm _ _ _ g1 hr0) g5 (by omega) (fun hx => by obtain ⟨q1, q2⟩ := g7 hx; rw [q2]; exact h3 q1) (fun i hi => h4 i (by omega)) h5
 | ptr hr0 hv =>
  intro m ρ2 y hs hm
  cases y <;> simp only [Bu.sim] at hs
  obtain ⟨g1, rfl⟩ := hs
  exact .ptr (hm _ _ _ g1 hr0) hv
 | mp hr0 =>
  intro m ρ2 y hs hm
  cases y <;> simp only [Bu.sim] at hs
  exact .mp (hm _ _ _ hs hr0)
 | fn vs hl hf h ih =>
  intro m ρ2 y hs hm
  cases y <;> simp only [Bu.sim] at hs
  obtain ⟨rfl, hs⟩ := hs
  obtain ⟨h1, h2⟩ := sims_get hs
  refine .fn vs (by rw [← h1]; exact hl) (fun i y hy => ?_) (fun i y v hy hv => ?_)
  ·obtain ⟨x, hx, hxy⟩ := h2 i y hy
   rw [simR_leaf hxy]; exact hf i x hx
  ·obtain ⟨x, hx, hxy⟩ := h2 i y hy
   rcases hxy with ⟨hn, rfl⟩ | hxy
   ·exact (h i x v hx hv).noid hn _
   ·exact ih i x v hx hv hxy hm
 | ifc1 hl h ih =>
  intro m ρ2 y hs hm
  cases y <;> simp only [Bu.sim] at hs
  obtain ⟨rfl, hs⟩ := hs
  refine .ifc1 (by rw [simR_leaf hs]; exact hl) ?_
  rcases hs with ⟨hn, rfl⟩ | hs
  ·exact h.noid hn _
  ·exact ih hs hm
 | ifcA hl h ih =>
  intro m ρ2 y hs hm
  cases y <;> simp only [Bu.sim] at hs
  obtain ⟨rfl, hs⟩ := hs
  refine .ifcA (by rw [simR_leaf hs]; exact hl) ?_
  rcases hs with ⟨hn, rfl⟩ | hs
  ·exact h.noid hn _
  ·exact ih hs hm
theorem rep_simR {ρ : Ren} {m : Nat → Option Nat} {x y : AV} {vs : List Value} {ρ2 : Ren} (h : Rep w A ρ x vs) (hr : Bu.simR m x y) (hm : ∀ k k' l, m k = some k' → ρ k = some l → ρ2 k' = some l) : Rep w A ρ2 y vs := by
 rcases hr with ⟨hn, rfl⟩ | hr
 ·exact h.noid hn _
 ·exact h.sim hr hm
theorem RV.sim {ρ : Ren} {m : Nat → Option Nat} {x y : AV} {v : Value} {ρ2 : Ren} (h : RV w A ρ x v) (hr : Bu.sim m x y) (hm : ∀ k k' l, m k = some k' → ρ k = some l → ρ2 k' = some l) : RV w A ρ2 y v := by
 rcases h with ⟨hl, h⟩ | ⟨hl, vs, e, h⟩
 ·exact .inl ⟨by rw [sim_leaf hr]; exact hl, h.sim hr hm⟩
 ·exact .inr ⟨by rw [sim_leaf hr]; exact hl, vs, e, h.sim hr hm⟩
theorem RV.simR {ρ : Ren} {m : Nat → Option Nat} {x y : AV} {v : Value} {ρ2 : Ren} (h : RV w A ρ x v) (hr : Bu.simR m x y) (hm : ∀ k k' l, m k = some k' → ρ k = some l → ρ2 k' = some l) : RV w A ρ2 y v := by
 rcases hr with ⟨hn, rfl⟩ | hr
 ·rcases h with ⟨hl, h⟩ | ⟨hl, vs, e, h⟩
  ·exact .inl ⟨hl, h.noid hn _⟩
  ·exact .inr ⟨hl, vs, e, h.noid hn _⟩
 ·exact h.sim hr hm
theorem RT.sim {ρ : Ren} {m : Nat → Option Nat} {x y : AV} {v : Value} {ρ2 : Ren} (h : RT w A ρ x v) (hr : Bu.sim m x y) (hm : ∀ k k' l, m k = some k' → ρ k = some l → ρ2 k' = some l) : RT w A ρ2 y v := by
 by_cases ht : ∃ l, x = .tup l
 ·obtain ⟨l, rfl⟩ := ht
  cases y <;> simp only [Bu.sim] at hr
  obtain ⟨vs, e, hl, h⟩ := h
  obtain ⟨h1, h2⟩ := sims_get hr
  refine ⟨vs, e, by rw [← h1]; exact hl, fun i y u hy hu => ?_⟩
  obtain ⟨x, hx, hxy⟩ := h2 i y hy
  exact (h i x u hx hu).simR hxy hm
 ·have hv := h.rv fun l e => ht ⟨l, e⟩
  have := hv.sim hr hm
  exact this.rt
theorem RT.simR {ρ : Ren} {m : Nat → Option Nat} {x y : AV} {v : Value} {ρ2 : Ren} (h : RT w A ρ x v) (hr : Bu.simR m x y) (hm : ∀ k k' l, m k = some k' → ρ k = some l → ρ2 k' = some l) : RT w A ρ2 y v := by
 rcases hr with ⟨hn, rfl⟩ | hr
 ·by_cases ht : ∃ l, x = .tup l
  ·obtain ⟨l, rfl⟩ := ht
   obtain ⟨vs, e, hl, h⟩ := h
   refine ⟨vs, e, hl, fun i y u hy hu => ?_⟩
   exact (h i y u hy hu).simR (m := m) (.inl ⟨noids_nth (by simpa [AV.noid] using hn) i y hy, rfl⟩) hm
  ·have hv := h.rv fun l e => ht ⟨l, e⟩
   exact (hv.simR (m := m) (.inl ⟨hn, rfl⟩) hm).rt
 ·exact h.sim hr hm
end
theorem shape_arr_of {n e : Nat} {f g : Nat → AV} (h : ∀ i, i < n → SameShape (f i) (g i)) : SameShape (.arr n e f) (.arr n e g) where
 size := rfl
 leaf := rfl
 vp p := by
  cases p with
  | nil => exact Iff.rfl
  | cons i p => exact ⟨fun ⟨h1, h2⟩ => ⟨h1, ((h i h1).vp p).1 h2⟩, fun ⟨h1, h2⟩ => ⟨h1, ((h i h1).vp p).2 h2⟩⟩
 off p hp := by
  cases p with
  | nil => rfl
  | cons i p => simp only [AV.off]; rw [(h i hp.1).off p hp.2]
theorem shape_st_arr {fs : List AV} {e : Nat} {f : Nat → AV} (h1 : sizesAll e fs = true) (h2 : ∀ i x, nth? fs i = some x → f i = x) : SameShape (.st fs) (.arr fs.length e f) where
 size := by rw [AV.size, sizes_pre, pre_all _ _ h1 (Nat.le_refl _)]; rfl
 leaf := rfl
 vp p := by
  cases p with
  | nil => exact Iff.rfl
  | cons i p =>
   simp only [AV.vp]
   cases hx : nth? fs i with
   | none => exact ⟨fun h => h.elim, fun ⟨h, _⟩ => by obtain ⟨x, hx'⟩ := nth?_some h; rw [hx] at hx'; cases hx'⟩
   | some x => rw [h2 i x hx]; exact ⟨fun h => ⟨nth?_lt hx, h⟩, fun h => h.2⟩
 off p hp := by
  cases p with
  | nil => rfl
  | cons i p =>
   simp only [AV.vp] at hp
   simp only [AV.off]
   cases hx : nth? fs i with
   | none => rw [hx] at hp; exact hp.elim
   | some x => rw [h2 i x hx, pre_all _ _ h1 (Nat.le_of_lt (nth?_lt hx))]
mutual
theorem sim_shape : ∀ {m : Nat → Option Nat} {x y : AV}, sim m x y → SameShape x y
  | m, .st fs, y, h => by
    cases y <;> simp only [sim] at h
    · obtain ⟨h1, h2⟩ := sims_shape h
      exact shapes_st _ _ h2 h1
    · obtain ⟨rfl, h2, _, h3⟩ := h
      exact shape_st_arr h2 h3
  | m, .arr n e f, y, h => by
    cases y <;> simp only [sim] at h
    obtain ⟨rfl, rfl, h3⟩ := h
    refine shape_arr_of fun i hi => ?_
    rcases h3 i hi with q | q
    · rw [q]; exact .refl _
    · exact sim_shape q
  | m, .tup l, y, h => by
    cases y <;> simp only [sim] at h
    exact ⟨rfl, rfl, fun p => by cases p <;> simp [AV.vp], fun p hp => by cases p <;> simp [AV.off]⟩
  | m, .v _, y, h => .of_leaf rfl (sim_leaf h)
  | m, .sb _, y, h => .of_leaf rfl (sim_leaf h)
  | m, .dat _ _ _ _, y, h => .of_leaf rfl (sim_leaf h)
  | m, .sl _ _ _ _ _ _ _, y, h => .of_leaf rfl (sim_leaf h)
  | m, .ptr _ _, y, h => .of_leaf rfl (sim_leaf h)
  | m, .pd _, y, h => .of_leaf rfl (sim_leaf h)
  | m, .mp _, y, h => .of_leaf rfl (sim_leaf h)
  | m, .fn _ _, y, h => .of_leaf rfl (sim_leaf h)
  | m, .ifc _ _, y, h => .of_leaf rfl (sim_leaf h)
theorem sims_shape : ∀ {m : Nat → Option Nat} {fs gs : List AV}, sim.sims m fs gs → fs.length = gs.length ∧ ∀ i x y, nth? fs i = some x → nth? gs i = some y → SameShape x y
  | m, [], gs, h => by
    cases gs with
    | nil => exact ⟨rfl, fun i x y hx => by cases i <;> cases hx⟩
    | cons y q => exact h.elim
  | m, x :: r, gs, h => by
    cases gs with
    | nil => exact h.elim
    | cons y q =>
      obtain ⟨h1, h2⟩ := h
      obtain ⟨h3, h4⟩ := sims_shape h2
      refine ⟨by simp [h3], fun i a b ha hb => ?_⟩
      cases i with
      | zero =>
        cases ha; cases hb
        rcases h1 with ⟨_, rfl⟩ | h1
        · exact .refl _
        · exact sim_shape h1
      | succ i => exact h4 i a b ha hb
end
theorem simR_row1 {m : Nat → Option Nat} {x y : AV} (h : simR m x y) (h1 : row1 x = true) : row1 y = true := by
 rcases h with ⟨_, rfl⟩ | h
 ·exact h1
 unfold row1 at h1
 split at h1
 ·cases y <;> first
   | (obtain ⟨_, rfl, _⟩ := h; rfl)
   | exact h.elim
 ·cases h1
theorem simR_shape {m : Nat → Option Nat} {x y : AV} (h : simR m x y) : SameShape x y := by
 rcases h with ⟨_, rfl⟩ | h
 ·exact .refl _
 ·exact sim_shape h
abbrev Nm := List (Nat × Nat)
def simB (m : Nat → Option Nat) : Blk → Blk → Prop
 | .c x, .c y => simR m x y
 | _, _ => False
def simTm (m : Nat → Option Nat) (tm : List (Nat × AV)) : List (Nat × AV) → Prop
 | [] => True
 | (t, y) :: r => (∃ x, look tm t = some x ∧ simR m x y) ∧ simTm m tm r
def pre? : Nm → Nat → Option Nat
 | [], _ => none
 | (i, j) :: r, k => match Nat.beq j k with | true => some i | false => pre? r k
def simHp (l : Nm) (H : List (Nat × Blk)) : List (Nat × Blk) → Prop
 | [] => True
 | (k, b) :: r => (match pre? l k with | some i => ∃ a, look H i = some a ∧ simB (look l) a b | none => ∃ e f, b = .c (.arr 0 e f)) ∧ simHp l H r
def namesOK (l : Nm) (k : Nat) (seen seen' : List Nat) (H' : List (Nat × Blk)) : Bool :=
 distinct (keysOf l) && distinct (l.map (·.2)) && (List.range k).all (fun i => match look l i with | some j => Nat.beq j i | none => false) &&
 l.all (fun x => match memb seen x.1 with | true => memb seen' x.2 | false => true) && (keysOf H').all (memb seen')
theorem simTm_get {m : Nat → Option Nat} {tm : List (Nat × AV)} : ∀ {tm' : List (Nat × AV)}, simTm m tm tm' → ∀ t y, look tm' t = some y → ∃ x, look tm t = some x ∧ simR m x y
 | [], _, t, y, h => by simp [look] at h
 | (t0, y0) :: r, h, t, y, hy => by
  obtain ⟨h1, h2⟩ := h
  simp only [look] at hy
  split at hy
  ·rename_i hb; obtain rfl := beq_iff.1 hb; cases hy; exact h1
  ·exact simTm_get h2 t y hy
theorem simHp_get {l : Nm} {H : List (Nat × Blk)} : ∀ {H' : List (Nat × Blk)}, simHp l H H' → ∀ k b, look H' k = some b → (∃ i a, pre? l k = some i ∧ look H i = some a ∧ simB (look l) a b) ∨ (pre? l k = none ∧ ∃ e f, b = .c (.arr 0 e f))
 | [], _, t, y, h => by simp [look] at h
 | (k0, b0) :: r, h, k, b, hy => by
  obtain ⟨h1, h2⟩ := h
  simp only [look] at hy
  split at hy
  ·rename_i hb
   obtain rfl := beq_iff.1 hb; cases hy
   cases hp : pre? l k0 with
   | some i => rw [hp] at h1; obtain ⟨a, h3, h4⟩ := h1; exact .inl ⟨i, a, rfl, h3, h4⟩
   | none => rw [hp] at h1; exact .inr ⟨rfl, h1⟩
  ·exact simHp_get h2 k b hy
theorem pre?_look : ∀ {l : Nm}, distinct (keysOf l) = true → ∀ {i k : Nat}, pre? l k = some i → look l i = some k
 | [], _, i, k, h => by simp [pre?] at h
 | (a, b) :: r, hd, i, k, h => by
  obtain ⟨h1, h2⟩ := distinct_cons hd
  simp only [pre?] at h
  split at h
  ·rename_i hb; obtain rfl := beq_iff.1 hb; cases h; simp [look, Nat.beq_refl]
  ·have := pre?_look h2 h
   simp only [look]
   split
   ·rename_i hb
    obtain rfl := beq_iff.1 hb
    have hm : memb (keysOf r) a = true := memb_keysOf.2 (by rw [this]; simp)
    rw [h1] at hm; cases hm
   ·exact this
theorem look_pre? : ∀ {l : Nm}, distinct (l.map (·.2)) = true → ∀ {i k : Nat}, look l i = some k → pre? l k = some i
 | [], _, i, k, h => by simp [look] at h
 | (a, b) :: r, hd, i, k, h => by
  obtain ⟨h1, h2⟩ := distinct_cons hd
  simp only [look] at h
  split at h
  ·rename_i hb; obtain rfl := beq_iff.1 hb; cases h; simp [pre?, Nat.beq_refl]
  ·have := look_pre? h2 h
   simp only [pre?]
   split
   ·rename_i hb
    obtain rfl := beq_iff.1 hb
    have key : ∀ {q : Nm}, look q i = some b → memb (q.map (·.2)) b = true := by
     intro q
     induction q with
     | nil => intro h; simp [look] at h
     | cons z q ih =>
      obtain ⟨u, v⟩ := z
      intro h
      simp only [look] at h
      simp only [List.map_cons, memb]
      split at h
      ·cases h; simp [Nat.beq_refl]
      ·split
       ·rfl
       ·exact ih h
    have := key h
    dsimp only at h1
    rw [h1] at this; cases this
   ·exact this
theorem look_mem {α : Type} : ∀ {l : List (Nat × α)} {i : Nat} {k : α}, look l i = some k → (i, k) ∈ l
 | [], i, k, h => by simp [look] at h
 | (a, b) :: r, i, k, h => by
  simp only [look] at h
  split at h
  ·rename_i hb; obtain rfl := beq_iff.1 hb; cases h; exact List.mem_cons_self
  ·exact List.mem_cons_of_mem _ (look_mem h)
theorem ent_of {C : Ctx} {N : Nat} {D : Dom} {k : Nat} {S S' : St} (l : Nm) (hn : namesOK l k S.seen S'.seen S'.hp = true) (ht : simTm (look l) S.tm S'.tm) (hh : simHp l S.hp S'.hp) : Ent C N D k S S' := by
 simp only [namesOK, Bool.and_eq_true, List.all_eq_true, List.mem_range] at hn
 obtain ⟨⟨⟨⟨n1, n2⟩, n3⟩, n4⟩, n5⟩ := hn
 intro hD ρ A a w h
 let ρ' : Ren := fun j => match pre? l j with | some i => ρ i | none => none
 have hm : ∀ i j x, look l i = some j → ρ i = some x → ρ' j = some x := fun i j x h1 h2 => by
  show (match pre? l j with | some i => ρ i | none => none) = some x
  rw [look_pre? n2 h1]; exact h2
 have hm' : ∀ j x, ρ' j = some x → ∃ i, pre? l j = some i ∧ ρ i = some x := fun j x h1 => by
  have h1' : (match pre? l j with | some i => ρ i | none => none) = some x := h1
  cases hp : pre? l j with
  | none => rw [hp] at h1'; cases h1'
  | some i => rw [hp] at h1'; exact ⟨i, rfl, h1'⟩
 have live : ∀ j, look S'.hp j ≠ none → ∀ x, ρ' j = some x → ∃ i, pre? l j = some i ∧ ρ i = some x ∧ look S.hp i ≠ none := fun j hj x hx => by
  obtain ⟨i, h1, h2⟩ := hm' j x hx
  refine ⟨i, h1, h2, ?_⟩
  cases hb : look S'.hp j with
  | none => exact absurd hb hj
  | some b =>
   rcases simHp_get hh j b hb with ⟨i', a', g1, g2, g3⟩ | ⟨g1, _⟩
   ·rw [h1] at g1; cases g1; rw [g2]; simp
   ·rw [h1] at g1; cases g1
 have hps : ∀ t y, look S'.tm t = some y → ∃ v, a.tmps[t]? = some v ∧ RT w A ρ' y v := fun t y hy => by
  obtain ⟨x, h1, h2⟩ := simTm_get ht t y hy
  obtain ⟨v, h3, h4⟩ := h.tm t x h1
  exact ⟨v, h3, h4.simR h2 hm⟩
 have stay : ∀ id x, id < k → ρ id = some x → ρ' id = some x := fun id x hid hx => by
  have := n3 id hid
  split at this
  ·rename_i j hj
   obtain rfl := beq_iff.1 this
   exact hm _ _ x hj hx
  ·cases this
 refine ⟨ρ', A, ⟨hps, h.nt, ⟨h.df.each, h.df.diff, hD ρ ρ' A w h.df.ex stay, h.df.rc, h.df.bs⟩, ⟨fun j b hb => ?_, fun i j x y h1 h2 h3 h4 hb => ?_, fun j x h1 h2 => ?_⟩, h.Ab, fun j x hx => ?_, fun j hj => ?_, fun g x hg => ?_⟩, ?_, fun id x hid hx => ?_⟩
 ·rcases simHp_get hh j b hb with ⟨i, a', g1, g2, g3⟩ | ⟨g1, g2⟩
  ·cases a' with
   | m => exact g3.elim
   | c t =>
    cases b with
    | m => exact g3.elim
    | c t' =>
     have g3' : simR (look l) t t' := g3
     rcases h.hp.blk i _ g2 with ⟨x, q1, q2, q3⟩ | ⟨q1, e, f, q2⟩
     ·obtain ⟨cs, el, fz, vs, rest, e1, e2, e3, e4, e5⟩ := q2
      refine .inl ⟨x, hm i j x (pre?_look n1 g1) q1, ⟨cs, el, fz, vs, rest, e1, e2.imp_right fun q => ⟨q.1, simR_row1 g3' q.2⟩, e3, (rep_simR e4 g3' hm), e5⟩, fun t'' he => by cases he; exact (q3 t rfl).trans (simR_shape g3')⟩
     ·cases q2
      refine .inr ⟨?_, ?_⟩
      ·show (match pre? l j with | some i => ρ i | none => none) = none
       rw [g1]; exact q1
      ·rcases g3' with ⟨_, rfl⟩ | g3'
       ·exact ⟨_, _, rfl⟩
       ·cases t' <;> simp only [sim] at g3'
        obtain ⟨g4, _, _⟩ := g3'
        subst g4
        exact ⟨_, _, rfl⟩
  ·refine .inr ⟨?_, g2⟩
   show (match pre? l j with | some i => ρ i | none => none) = none
   rw [g1]
 ·obtain ⟨i', p1, p2, p3⟩ := live i h1 x h3
  obtain ⟨j', q1, q2, q3⟩ := live j h2 y h4
  have := h.hp.inj i' j' x y p3 q3 p2 q2 hb
  subst this
  have e1 := pre?_look n1 p1
  have e2 := pre?_look n1 q1
  rw [e1] at e2; cases e2; rfl
 ·obtain ⟨i, p1, p2, p3⟩ := live j h1 x h2
  exact h.hp.apart i x p3 p2
 ·obtain ⟨i, p1, p2⟩ := hm' j x hx
  obtain ⟨q1, q2⟩ := h.rb i x p2
  refine ⟨q1, ?_⟩
  have := n4 (i, j) (look_mem (pre?_look n1 p1))
  simp only [q2] at this
  exact this
 ·exact n5 j (memb_iff.1 (memb_keysOf.2 hj))
 ·rcases h.gl g x hg with ⟨q1, q2⟩ | ⟨q1, _⟩
  ·exact .inl ⟨rfl, q2.noid rfl ρ'⟩
  ·cases q1
 ·refine ⟨Nat.le_refl _, rfl, rfl, rfl, fun _ _ _ => rfl, fun _ c _ fz h => ⟨c, fz, h, rfl⟩, fun _ h => h, fun _ h => .inl h, fun b hb => ?_⟩
  obtain ⟨j, x, h1, h2, h3⟩ := hb
  obtain ⟨i, p1, p2, p3⟩ := live j h1 x h2
  exact .inl ⟨i, x, p3, p2, h3⟩
 ·have := n3 id hid
  split at this
  ·rename_i j hj
   obtain rfl := beq_iff.1 this
   exact hm _ _ x hj hx
  ·cases this
end Go.Bu
namespace Go.Bu
def after (C : Ctx) (W : Way) : Code → List Nat → List Nat → (Ex → St → VC) → Ex → St → VC
 | .seq a b, 0 :: r, p, K => after C W a r (0 :: p) (fun e S' => match e with | .normal => vc C W b (1 :: p) S' K | .exit j => K (.exit j) S' | .ret => K .ret S')
 | .seq _ b, _ :: r, p, K => after C W b r (1 :: p) K
 | .cond _ a _, 0 :: r, p, K => after C W a r (0 :: p) K
 | .cond _ _ b, _ :: r, p, K => after C W b r (1 :: p) K
 | .block id b, _ :: r, p, K => after C W b r (0 :: p) (fun e S' => match e with
  | .exit j => (match Nat.beq j id with | true => K .normal S' | false => K (.exit j) S')
  | .normal => K .normal S'
  | .ret => K .ret S')
 | _, _, _, K => K
def bodyAt (c : Code) (p : List Nat) : Code :=
 match sub? c p with
 | some (.loop b) => b
 | _ => .skip
def stmtAt (c : Code) (p : List Nat) : Code :=
 match sub? c p with
 | some x => x
 | none => .skip
def cutAt (C : Ctx) (W : Way) (c : Code) (p : List Nat) (S : St) (K : Ex → St → VC) : VC :=
 match sub? c p with
 | some (.region _ ops draws) => regVC C W ops.toList draws S K
 | _ => .fail 0
abbrev lf : Ex → St → VC := fun e S => .leaf e S
section
variable {C : Ctx} {P : Program} {W : Way} {N : Nat} {D : Dom} {k : Nat} {S : St}
theorem Holds.mono {Φ Ψ : Ex → St → Prop} (hm : ∀ e S, Φ e S → Ψ e S) : ∀ {v : VC}, Holds C P N D k Φ v → Holds C P N D k Ψ v
 | .fork b t e, h => ⟨fun hb => (h.1 hb).mono hm, fun hb => (h.2 hb).mono hm⟩
 | .need p q, h => ⟨h.1, h.2.mono hm⟩
 | .leaf e S, h => hm e S h
 | .call _ _ _ _ _ q, h => ⟨h.1, h.2.mono hm⟩
 | .yld _ _ _ _ _ _ q, h => ⟨h.1, h.2.mono hm⟩
 | .loop p b S q, h => fun hD ρ A a w hR => by
  have := h hD ρ A a w hR
  refine wpIn_mono this fun ex a' w' hp => ?_
  obtain ⟨e, S', ρ', A', h1, h2, h3⟩ := hp
  exact ⟨e, S', ρ', A', h1, Holds.mono hm h2, h3⟩
 | .rng p c S q, h => fun hD ρ A a w hR => by
  have := h hD ρ A a w hR
  refine wpIn_mono this fun ex a' w' hp => ?_
  obtain ⟨e, S', ρ', A', h1, h2, h3⟩ := hp
  exact ⟨e, S', ρ', A', h1, Holds.mono hm h2, h3⟩
 | .fail _, h => h
 | .cut _ _ _, h => by obtain ⟨S2, h1, h2⟩ := h; exact ⟨S2, h1, h2.mono hm⟩
theorem LoopOK.mono {b : Code} {Φ Ψ : Ex → St → Prop} (h : LoopOK C P N D k b S Φ) (hm : ∀ e S, Φ e S → Ψ e S) : LoopOK C P N D k b S Ψ := fun hD ρ A a w hR => by
 refine wpIn_mono (h hD ρ A a w hR) fun ex a' w' hp => ?_
 obtain ⟨e, S', ρ', A', h1, h2, h3⟩ := hp
 exact ⟨e, S', ρ', A', h1, hm _ _ h2, h3⟩
theorem funPost_of {rs : List ResultVar} {r : AV} {H' : List (Nat × Blk)} {e : Ex} {S2 : St} {r' : AV} (he : ∀ j, e ≠ .exit j) (h1 : ∀ {D : Dom}, Ent C N D k S S2) (h2 : resAV C S2 rs = some r') (h3 : simR some r' r) (h4 : ∀ id b, look H' id = some b → look S2.hp id = some b) : FunPost C N k rs r H' e S := by
 cases e with
 | exit j => exact absurd rfl (he j)
 | normal => exact ⟨S2, r', h1, h2, fun w A ρ v hv => hv.simR h3 fun _ _ _ e h => (by cases e; exact h), fun id b hb => h4 id b hb⟩
 | ret => exact ⟨S2, r', h1, h2, fun w A ρ v hv => hv.simR h3 fun _ _ _ e h => (by cases e; exact h), fun id b hb => h4 id b hb⟩
end
end Go.Bu
namespace Go.Bu
theorem of_eq {p q : Prop} (h : p = q) (hq : q) : p := h ▸ hq
def RoundQ {σ : Type} (C : Ctx) (N : Nat) (D : Dom) (k : Nat) (I : σ → St) (Q : σ → Prop) (μ : σ → Nat) (m : Nat) (Φ : Ex → St → Prop) : Ex → St → Prop
 | .normal, S => ∃ s, Q s ∧ Ent C N D k S (I s) ∧ μ s < m
 | e, S => Φ e S
section
variable {C : Ctx} {P : Program} {W : Way} {D : Dom} {k : Nat} {Φ : Ex → St → Prop} {S : St}
theorem loop_inv {σ : Type} (K : CtxOK C P) (hm : P.follows .mixedOrders = true) {b : Code} (hb : codeOK b = true) (I : σ → St) (Q : σ → Prop) (μ : σ → Nat) (s0 : σ) (q0 : Q s0) (h0 : Ent C W.nt D k S (I s0))
  (round : ∀ s, Q s → Holds C P W.nt D k (RoundQ C W.nt D k I Q μ (μ s) Φ) (vc C W b [] (I s) lf)) : LoopOK C P W.nt D k b S Φ := by
 refine loop_ok (σ := { s : σ // Q s }) K hm hb (fun s => I s.1) (fun s => μ s.1) ⟨s0, q0⟩ h0 [] fun s => ?_
 refine (round s.1 s.2).mono fun e S' h => ?_
 cases e with
 | normal => obtain ⟨s', h1, h2, h3⟩ := h; exact ⟨⟨s', h1⟩, h2, h3⟩
 | exit j => exact h
 | ret => exact h
theorem cut_ok {S S2 : St} {N : Nat} {q : St → VC} (h : Ent C N D k S S2) (hq : Holds C P N D k Φ (q S2)) : ∃ S2, Ent C N D k S S2 ∧ Holds C P N D k Φ (q S2) := ⟨S2, h, hq⟩
theorem round_end {σ : Type} {C : Ctx} {N : Nat} {D : Dom} {k : Nat} {I : σ → St} {Q : σ → Prop} {μ : σ → Nat} {m : Nat} {Φ : Ex → St → Prop} {S : St} (s : σ) (h1 : Q s) (h2 : Ent C N D k S (I s)) (h3 : μ s < m) : RoundQ C N D k I Q μ m Φ .normal S := ⟨s, h1, h2, h3⟩
end
section
variable {m : Nat → Option Nat}
theorem sm_same {x : AV} (h : x.noid = true) : simR m x x := .inl ⟨h, rfl⟩
theorem sm_int {k : IntKind} {a b : Int} (h : a = b) : simR m (.v (.int k a)) (.v (.int k b)) := .inl ⟨rfl, by rw [h]⟩
theorem sm_arr {n e : Nat} {f g : Nat → AV} (h : ∀ i, i < n → f i = g i) : simR m (.arr n e f) (.arr n e g) := .inr ⟨rfl, rfl, fun i hi => .inl (h i hi)⟩
theorem sm_arr' {n n' e : Nat} {f g : Nat → AV} (hn : n = n') (h : ∀ i, i < n → f i = g i) : simR m (.arr n e f) (.arr n' e g) := .inr ⟨hn, rfl, fun i hi => .inl (h i hi)⟩
theorem sm_dat {n e : Nat} {ex ex' : Bool} {f g : Nat → AV} (hx : ex' = true → ex = true) (h : ∀ i, i < n → f i = g i) : simR m (.dat n ex e f) (.dat n ex' e g) := .inr ⟨rfl, hx, .inr rfl, fun i hi => .inl (h i hi)⟩
theorem sm_dat' {n n' e : Nat} {ex ex' : Bool} {f g : Nat → AV} (hn : n = n') (hx : ex' = true → ex = true) (h : ∀ i, i < n → f i = g i) : simR m (.dat n ex e f) (.dat n' ex' e g) := .inr ⟨hn, hx, .inr rfl, fun i hi => .inl (h i hi)⟩
theorem sm_sl {id id' : Nat} {p : List Nat} {o n c n' c' e : Nat} {ex ex' : Bool} (h : m id = some id') (hn : n = n') (h1 : n ≤ c') (h2 : c' ≤ c) (hx : ex' = true → ex = true ∧ c' = c) : simR m (.sl id p o n c ex e) (.sl id' p o n' c' ex' e) := .inr ⟨h, rfl, rfl, hn, h1, h2, hx, rfl⟩
theorem sm_nil {e : Nat} {f : Nat → AV} {id' : Nat} {p : List Nat} {o n c e' : Nat} {ex' : Bool} (h1 : n = 0) (h2 : c = 0) : simR m (.dat 0 true e f) (.sl id' p o n c ex' e') := .inr ⟨rfl, rfl, h1, h2⟩
theorem sm_ptr {id id' : Nat} {p : List Nat} (h : m id = some id') : simR m (.ptr id p) (.ptr id' p) := .inr ⟨h, rfl⟩
theorem sm_b {b : Bool} {x : Value} (h : x = .bool b) : simR m (.v x) (.sb b) := .inr h
theorem sm_sb {a b : Bool} (h : a = b) : simR m (.sb a) (.sb b) := .inl ⟨rfl, by rw [h]⟩
theorem sm_st {fs gs : List AV} (h : sim.sims m fs gs) : simR m (.st fs) (.st gs) := .inr h
theorem sm_fn {f : Fn} {fs gs : List AV} (h : sim.sims m fs gs) : simR m (.fn f fs) (.fn f gs) := .inr ⟨rfl, h⟩
theorem sm_row {fs : List AV} {n e : Nat} {f : Nat → AV} (h1 : n = fs.length) (h2 : sizesAll e fs = true) (h3 : AV.noid.noids fs = true) (h4 : ∀ i x, nth? fs i = some x → f i = x) : simR m (.st fs) (.arr n e f) := .inr ⟨h1, h2, h3, h4⟩
theorem sms_nil : sim.sims m [] [] := trivial
theorem sms_cons {x y : AV} {r q : List AV} (h : simR m x y) (t : sim.sims m r q) : sim.sims m (x :: r) (y :: q) := ⟨h, t⟩
theorem tm_nil {tm : List (Nat × AV)} : simTm m tm [] := trivial
theorem tm_cons {tm r : List (Nat × AV)} {t : Nat} {x y : AV} (h : look tm t = some x) (hs : simR m x y) (hr : simTm m tm r) : simTm m tm ((t, y) :: r) := ⟨⟨x, h, hs⟩, hr⟩
theorem hp_nil {l : Nm} {H : List (Nat × Blk)} : simHp l H [] := trivial
theorem hp_cons {l : Nm} {H r : List (Nat × Blk)} {j i : Nat} {x y : AV} (hp : pre? l j = some i) (h : look H i = some (.c x)) (hs : simR (look l) x y) (hr : simHp l H r) : simHp l H ((j, .c y) :: r) := ⟨by rw [hp]; exact ⟨_, h, hs⟩, hr⟩
theorem hp_new {l : Nm} {H r : List (Nat × Blk)} {j n e : Nat} {f : Nat → AV} (hp : pre? l j = none) (hn : n = 0) (hr : simHp l H r) : simHp l H ((j, .c (.arr n e f)) :: r) := ⟨by rw [hp]; subst hn; exact ⟨_, _, rfl⟩, hr⟩
end
section
variable {C : Ctx} {N k : Nat} {S : St}
theorem post_tmp {t : Nat} {x r : AV} (h : look S.tm t = some x) (hs : simR (fun _ => none) x r) : FunPost C N 0 [.tmp t] r [] .ret S := by
 exact ⟨{ tm := [(t, r)], hp := [], seen := [] }, r, ent_of [] rfl (tm_cons h hs tm_nil) hp_nil, by simp [resAV, resAll, resOne, look, Nat.beq_refl], fun _ _ _ _ h => h, fun id b hb => by cases hb⟩
theorem post_cell {a t id : Nat} {x r : AV} (h : look S.tm a = some (.ptr id [])) (hb : look S.hp id = some (.c x)) (hs : simR (look [(id, 0)]) x r) (hf : fitsT C t r = true) : FunPost C N 0 [.cell a t] r [] .ret S := by
 refine ⟨{ tm := [(a, .ptr 0 [])], hp := [(0, .c r)], seen := [0] }, r, ent_of [(id, 0)] ?_ (tm_cons h (sm_ptr (by simp [look, Nat.beq_refl])) tm_nil) (hp_cons rfl hb hs hp_nil), by simp [resAV, resAll, resOne, look, Nat.beq_refl, AV.sub, hf], fun _ _ _ _ h => h, fun id b hb => by cases hb⟩
 simp only [namesOK, keysOf, distinct, memb, List.map, List.all_cons, List.all_nil, List.range_zero, Nat.beq_refl]
 cases memb S.seen id <;> rfl
end
end Go.Bu
namespace Go.Bu
def simArgs : List AV → List AV → Prop
 | [], [] => True
 | x :: r, y :: q => simR some x y ∧ simArgs r q
 | _, _ => False
def simHeap : List (Nat × Blk) → List (Nat × Blk) → Prop
 | [], [] => True
 | (i, a) :: r, (j, b) :: q => i = j ∧ simB some a b ∧ simHeap r q
 | _, _ => False
theorem simArgs_get : ∀ {l q : List AV}, simArgs l q → l.length = q.length ∧ ∀ i y, nth? q i = some y → ∃ x, nth? l i = some x ∧ simR some x y
 | [], [], _ => ⟨rfl, fun i y h => by cases i <;> cases h⟩
 | x :: r, y :: q, h => by
  obtain ⟨h3, h4⟩ := simArgs_get h.2
  refine ⟨by simp [h3], fun i z hz => ?_⟩
  cases i with
  | zero => cases hz; exact ⟨x, rfl, h.1⟩
  | succ i => exact h4 i z hz
 | [], _ :: _, h => h.elim
 | _ :: _, [], h => h.elim
theorem simHeap_get : ∀ {H H2 : List (Nat × Blk)}, simHeap H H2 → ∀ i, (look H2 i = none ∧ look H i = none) ∨ ∃ a b, look H i = some a ∧ look H2 i = some b ∧ simB some a b
 | [], [], _ => fun i => .inl ⟨rfl, rfl⟩
 | (k, a) :: r, (k', b) :: q, h => fun i => by
  obtain ⟨rfl, h1, h2⟩ := h
  simp only [look]
  cases Nat.beq k i with
  | true => exact .inr ⟨a, b, rfl, rfl, h1⟩
  | false => exact simHeap_get h2 i
 | [], _ :: _, h => h.elim
 | _ :: _, [], h => h.elim
theorem own_simHeap {H H2 : List (Nat × Blk)} (h : simHeap H H2) (ρ : Ren) : own ρ H2 = own ρ H := by
 funext b
 have key : ∀ id, (look H2 id ≠ none) = (look H id ≠ none) := fun id => by
  rcases simHeap_get h id with ⟨h1, h2⟩ | ⟨a, c, h1, h2, _⟩
  ·rw [h1, h2]
  ·rw [h1, h2]; simp
 unfold own
 simp only [key]
theorem Fun.sim {C : Ctx} {P : Program} {g : Nat} {args args2 : List AV} {H H2 H' : List (Nat × Blk)} {r : AV} (h : Fun C P g args2 H2 r H') (ha : simArgs args args2) (hh : simHeap H H2) : Fun C P g args H r H' := by
 intro ρ A w vs hl hv hH hAb hrb hgl
 obtain ⟨h1, h2⟩ := simArgs_get ha
 have hs := simHeap_get hh
 have nn : ∀ id, look H id ≠ none ↔ look H2 id ≠ none := fun id => by
  rcases hs id with ⟨q1, q2⟩ | ⟨a, c, q1, q2, _⟩
  ·rw [q1, q2]
  ·rw [q1, q2]; simp
 have := h ρ A w vs (by rw [hl, h1]) (fun i y v hy hv' => by
  obtain ⟨x, hx, hxy⟩ := h2 i y hy
  exact (hv i x v hx hv').simR hxy fun _ _ _ e hl => by cases e; exact hl) ⟨fun id k hk => ?_, fun id id' l l' q1 q2 => hH.inj id id' l l' ((nn id).2 q1) ((nn id').2 q2), fun id l q1 => hH.apart id l ((nn id).2 q1)⟩ hAb
  (fun id l hl => ⟨(hrb id l hl).1, (nn id).1 (hrb id l hl).2⟩) hgl
 ·rw [own_simHeap hh ρ] at this; exact this
 ·rcases hs id with ⟨q1, _⟩ | ⟨a, c, q1, q2, q3⟩
  ·rw [q1] at hk; cases hk
  ·rw [q2] at hk; cases hk
   cases a with
   | m => exact q3.elim
   | c t =>
    cases k with
    | m => exact q3.elim
    | c t' =>
     have q3' : simR some t t' := q3
     rcases hH.blk id _ q1 with ⟨x, p1, p2, p3⟩ | ⟨p1, e, f, p2⟩
     ·obtain ⟨cs, el, fz, us, rest, e1, e2, e3, e4, e5⟩ := p2
      refine .inl ⟨x, p1, ⟨cs, el, fz, us, rest, e1, e2.imp_right fun q => ⟨q.1, simR_row1 q3' q.2⟩, e3, rep_simR e4 q3' (fun _ _ _ e hl => (by cases e; exact hl)), e5⟩, fun t'' he => by cases he; exact (p3 t rfl).trans (simR_shape q3')⟩
     ·cases p2
      refine .inr ⟨p1, ?_⟩
      rcases q3' with ⟨_, rfl⟩ | q3'
      ·exact ⟨_, _, rfl⟩
      ·cases t' <;> simp only [Bu.sim] at q3'
       obtain ⟨g4, _, _⟩ := q3'
       subst g4
       exact ⟨_, _, rfl⟩
def asN : AV → Nat
 | .v (.int _ n) => n.toNat
 | _ => 0
def dN (f : Nat → AV) : Nat → Nat := fun i => asN (f i)
abbrev u8 (n : Nat) : AV := .v (.int .u8 (n : Int))
abbrev u64 (n : Nat) : AV := .v (.int .u64 (n : Int))
abbrev i64 (n : Nat) : AV := .v (.int .i64 (n : Int))
theorem asN_nat (k : IntKind) (n : Nat) : asN (.v (.int k (n : Int))) = n := rfl
def B8 (n : Nat) (f : Nat → AV) : Prop := ∀ i, i < n → f i = u8 (dN f i) ∧ dN f i < 256
def W64 (n : Nat) (f : Nat → AV) : Prop := ∀ i, i < n → f i = u64 (dN f i) ∧ dN f i < 2 ^ 64
theorem B8.of {n : Nat} {g : Nat → Nat} (h : ∀ i, i < n → g i < 256) : B8 n (fun i => u8 (g i)) := fun i hi => ⟨rfl, h i hi⟩
theorem W64.of {n : Nat} {g : Nat → Nat} (h : ∀ i, i < n → g i < 2 ^ 64) : W64 n (fun i => u64 (g i)) := fun i hi => ⟨rfl, h i hi⟩
def bytesL (n : Nat) (f : Nat → AV) : List Nat := (List.range n).map (dN f)
theorem bytesL_nat {n : Nat} {f : Nat → AV} {g : Nat → Nat} {k : IntKind} (h : ∀ i, i < n → f i = .v (.int k (g i : Int))) : bytesL n f = (List.range n).map g := by
 unfold bytesL
 refine List.map_congr_left fun i hi => ?_
 simp only [dN, h i (List.mem_range.1 hi), asN_nat]
end Go.Bu
namespace Go.Bu
def rowL (l : List Nat) : Nat → AV := fun i => u8 (l.getD i 0)
def datL : AV → List Nat
 | .dat n _ _ f => bytesL n f
 | _ => []
def partsL (n : Nat) (f : Nat → AV) : List (List Nat) := (List.range n).map fun i => datL (f i)
def Small (l : List Nat) : Prop := ∀ x ∈ l, x < 256
theorem getD_small {l : List Nat} (h : Small l) (i : Nat) : l.getD i 0 < 256 := by
 rw [List.getD_eq_getElem?_getD]
 cases hx : l[i]? with
 | none => exact (by decide)
 | some x => exact h x (List.mem_of_getElem? hx)
theorem bytesL_len (n : Nat) (f : Nat → AV) : (bytesL n f).length = n := by simp [bytesL]
theorem bytesL_get {n : Nat} {f : Nat → AV} {i : Nat} (hi : i < n) : (bytesL n f).getD i 0 = dN f i := by
 simp [bytesL, List.getD_eq_getElem?_getD, hi]
theorem range_getD (l : List Nat) : (List.range l.length).map (fun i => l.getD i 0) = l := by
 apply List.ext_getElem
 ·simp
 ·intro i h1 h2
  simp [List.getD_eq_getElem?_getD, List.getElem?_eq_getElem h2]
theorem bytesL_row (l : List Nat) : bytesL l.length (rowL l) = l := by
 rw [bytesL_nat (f := rowL l) (g := fun i => l.getD i 0) (k := .u8) fun i _ => rfl, range_getD]
theorem row_bytesL {n : Nat} {f : Nat → AV} (h : B8 n f) (i : Nat) (hi : i < n) : f i = u8 ((bytesL n f).getD i 0) := by
 rw [bytesL_get hi]; exact (h i hi).1
theorem small_bytesL {n : Nat} {f : Nat → AV} (h : B8 n f) : Small (bytesL n f) := fun x hx => by
 obtain ⟨i, hi, rfl⟩ := List.mem_map.1 hx
 exact (h i (List.mem_range.1 hi)).2
end Go.Bu

