/- Contracts from the kit's own, for functions that give back a new row; for one that ranges over a function. -/
import Derived.Test.YtfioagkihgaimaaDoorK9
import Derived.RangeFuncBox
import Derived.RangeFuncLeaves
namespace Go.Bu
open Go.RowKit

/-- What a slice of numbers that is lent is. -/
theorem rv_dat {w : World} {A : Nat → Prop} {ρ : Ren} {n : Nat} {ex : Bool} {x : Nat → Value} {v : Value} (h : RV w A ρ (.dat n ex 1 (fun i => .v (x i))) v) :
    (n = 0 ∧ ∃ a c, v = .slice a 0 c) ∨ ∃ b o c, v = .slice (some ⟨b, o, none⟩) n c ∧ A b ∧ n ≤ c ∧ ∀ i, i < n → w.cell? ⟨b, o + i, none⟩ = some (x i) := by
  rcases h with ⟨_, hr⟩ | ⟨hl, _⟩
  · generalize hvs : [v] = vs at hr
    cases hr with
    | dat0 _ => exact .inl ⟨rfl, _, _, (List.cons.inj hvs).1⟩
    | dat q hA hc _ hlen hq hr =>
      refine .inr ⟨_, _, _, (List.cons.inj hvs).1, hA, hc, fun i hi => ?_⟩
      have := hq i 0 hi (by omega)
      rw [rep_v_eq (hr i hi)] at this
      simpa using this
  · cases hl

theorem cells_below {w w' : World} (hB : Below w.heap.size w w') (b : Nat) (c : Array Value) (e : TypeId) (fz : Nat × Nat) (hc : w.heap[b]? = some (Obj.cells c e fz)) : ∃ (c' : Array Value) (fz' : Nat × Nat), w'.heap[b]? = some (Obj.cells c' e fz') ∧ c'.size = c.size := by
  have hlt : b < w.heap.size := by
    rcases Nat.lt_or_ge b w.heap.size with h' | h'
    · exact h'
    · rw [Array.getElem?_eq_none h'] at hc; cases hc
  exact ⟨c, fz, by rw [hB.block b hlt]; exact hc, rfl⟩
theorem keeps_below {w w' : World} {A : Nat → Prop} {ρ : Ren} (hA : ∀ b, A b → b < w.heap.size) (hB : Below w.heap.size w w') : Keeps w A ρ w' A ρ :=
  ⟨fun b h => ⟨h, hB.block b (hA b h)⟩, fun _ _ h => h, cells_below hB⟩
/-- An array of numbers reads so everywhere. -/
theorem rv_row_any {w : World} {A : Nat → Prop} {ρ : Ren} {n : Nat} {f : Nat → AV} {v : Value} (hf : ∀ i, i < n → ∃ x, f i = .v x) (h : RV w A ρ (.arr n 1 f) v) (w' : World) (A' : Nat → Prop) (ρ' : Ren) : ∃ us : List Value, v = .agg us.toArray ∧ us.length = n ∧ Rep w' A' ρ' (.arr n 1 f) us := by
  rcases h with ⟨hl, _⟩ | ⟨_, us, rfl, hr⟩
  · cases hl
  · have hlen := hr.len
    refine ⟨us, rfl, by rw [hlen]; simp [AV.size], ?_⟩
    cases hr with
    | arr q hq hr e =>
      refine .arr q hq (fun i hi => ?_) e
      have := hr i hi
      obtain ⟨x, hx⟩ := hf i hi
      rw [hx] at this ⊢
      generalize q i = us at this ⊢
      cases this with
      | v h => exact .v h

/-- A function that gives back a new row of numbers and leaves the old memory. -/
theorem fun_row {C : Ctx} {P : Program} {g : FuncId} {fn : Func} {c : Code} {args : List AV} {n : Nat} {x : Nat → Value} (hf : P.funcs[g]? = some fn) (hb : fn.body = some c) (hn : (fn.name == "runtime.NumGoroutine") = false) (hx : ∀ i, nota (x i) = true)
    (h : ∀ (w : World) (A : Nat → Prop) (vs : List Value), vs.length = args.length → (∀ i x v, nth? args i = some x → nth? vs i = some v → RV w A (fun _ => none) x v) → (∀ b, A b → b < w.heap.size) → (∀ g x, C.gl g = some x → RV w A (fun _ => none) (.pd x) (.pointer (some ⟨g, 0, none⟩))) →
      Calls P g vs.toArray w fun e w' => ∃ v t, e = .returned v ∧ Below w.heap.size w w' ∧ w'.ownsRow w.heap.size t 1 v n ((List.range n).map x)) :
    Fun C P g args [] (.sl 0 [] 0 n n false 1) [(0, .c (.arr n 1 (fun i => .v (x i))))] := by
  intro ρ A w vs hlen hrv hH hAb hrb hgl
  have hρ : ∀ id l, ρ id = some l → False := fun id l hl => (hrb id l hl).2 rfl
  have hcall : (callFunc g vs.toArray).run P w = .ok (.enter g vs.toArray) w := by
    have hn' : fn.name ≠ "runtime.NumGoroutine" := by simpa using hn
    simp [callFunc, hf, hn', hb]
  unfold Does
  rw [hcall]
  dsimp only
  have hK : Keeps w A ρ w A (fun _ => none) := ⟨fun b h => ⟨h, rfl⟩, fun id k h => (hρ id k h).elim, fun b c e fz h => ⟨c, fz, h, rfl⟩⟩
  refine Calls.mono (h w A vs hlen (fun i x v h1 h2 => (hrv i x v h1 h2).keep hK) hAb (fun g x hg => (hgl g x hg).keep hK)) fun e w' he => ?_
  obtain ⟨v, t, rfl, hB, hlenx, hrow⟩ := he
  dsimp only
  have hcells := cells_below hB
  rcases hrow with ⟨rfl, rfl⟩ | ⟨k, cap, cur, rfl, hk, hkc, hcap, hmx, hsz, htake⟩
  · refine ⟨fun _ => none, A, .inl ⟨rfl, .sl0⟩, ⟨fun id k hk => ?_, fun id id' l l' _ _ h1 => (by cases h1), fun id l _ h1 => (by cases h1)⟩, fun id l hl => (hρ id l hl).elim, fun b hb => Nat.lt_of_lt_of_le (hAb b hb) hB.size, fun id l hl => (by cases hl), ?_⟩
    · refine .inr ⟨rfl, 1, fun i => .v (x i), ?_⟩
      cases id with
      | zero => exact (Option.some.inj hk).symm
      | succ id => cases hk
    · exact ⟨hB.size, hB.os, hB.tape, hB.output, fun b hb _ => hB.block b hb, hcells, fun _ h => h, fun _ h => .inl h, fun b h => by obtain ⟨_, _, _, h1, _⟩ := h; cases h1⟩
  · have hkl : k < w'.heap.size := (Array.getElem?_eq_some_iff.1 hkc).1
    refine ⟨fun id => match id with | 0 => some ⟨k, .arr n 1 (fun i => .v (x i))⟩ | _ + 1 => none, A, .inl ⟨rfl, ?_⟩, ⟨fun id q hq => ?_, fun id id' l l' _ _ h1 h2 _ => ?_, fun id l _ h1 => ?_⟩, fun id l hl => (hρ id l hl).elim, fun b hb => Nat.lt_of_lt_of_le (hAb b hb) hB.size, fun id l hl => ?_, ?_⟩
    · exact Rep.sl (k := ⟨k, .arr n 1 (fun i => .v (x i))⟩) (o := 0) (e := 1) (rc := cap) rfl (Nat.le_refl _) hcap (fun h => by cases h) (fun i hi => ⟨⟨by omega, trivial⟩, by simp [AV.off]⟩) ⟨cur, t, _, hkc, by simp [AV.off, hsz]⟩
    · cases id with
      | zero =>
        obtain rfl := Option.some.inj hq
        refine .inl ⟨_, rfl, ⟨cur, t, _, (List.range n).map x, cur.toList.drop n, hkc, .inl rfl, ?_, ?_⟩, fun t ht => by cases ht; exact .refl _⟩
        · rw [← htake, Nat.mul_one, List.take_append_drop]
        · exact Rep.arr (fun i => [x i]) (fun _ _ => rfl) (fun i _ => .v (hx i)) (flat_one fun _ _ => rfl).symm
      | succ id => cases hq
    · cases id <;> cases id' <;> first | rfl | (cases h1; done) | (cases h2; done)
    · cases id with
      | zero =>
        obtain rfl := Option.some.inj h1
        intro hA
        have := hAb k hA
        omega
      | succ id => cases h1
    · cases id with
      | zero => obtain rfl := Option.some.inj hl; exact hkl
      | succ id => cases hl
    · refine ⟨hB.size, hB.os, hB.tape, hB.output, fun b hb _ => hB.block b hb, hcells, fun _ h => h, fun _ h => .inl h, fun b h => ?_⟩
      obtain ⟨id, l, _, h1, rfl⟩ := h
      cases id with
      | zero => obtain rfl := Option.some.inj h1; exact .inr hk
      | succ id => cases h1

/-- What a function that gives back a new row of numbers leaves. -/
theorem row_of {C : Ctx} {P : Program} {g : FuncId} {fn : Func} {c : Code} {args : List AV} {n cap : Nat} {ex : Bool} {x : Nat → Value} (hf : P.funcs[g]? = some fn) (hb : fn.body = some c) (hn : (fn.name == "runtime.NumGoroutine") = false)
    (h : Fun C P g args [] (.sl 0 [] 0 n cap ex 1) [(0, .c (.arr n 1 (fun i => .v (x i))))]) (w : World) (vs : List Value) (hlen : vs.length = args.length) (A : Nat → Prop) (hA : ∀ b, A b → b < w.heap.size) (hgl : ∀ g x, C.gl g = some x → RV w A (fun _ => none) (.pd x) (.pointer (some ⟨g, 0, none⟩))) (hrv : ∀ i x v, nth? args i = some x → nth? vs i = some v → RV w A (fun _ => none) x v) :
    Calls P g vs.toArray w fun e w' => Below w.heap.size w w' ∧ ((n = 0 ∧ ∃ a c, e = .returned (.slice a 0 c)) ∨ ∃ b o c, e = .returned (.slice (some ⟨b, o, none⟩) n c) ∧ w.heap.size ≤ b ∧ b < w'.heap.size ∧ ∀ i, i < n → w'.cell? ⟨b, o + i, none⟩ = some (x i)) := by
  have hcall : (callFunc g vs.toArray).run P w = .ok (.enter g vs.toArray) w := by
    have hn' : fn.name ≠ "runtime.NumGoroutine" := by simpa using hn
    simp [callFunc, hf, hn', hb]
  have := h (fun _ => none) A w vs hlen hrv ⟨fun id k hk => (by cases hk), fun id id' l l' h1 => absurd rfl h1, fun id l h1 => absurd rfl h1⟩ hA (fun id l hl => (by cases hl)) hgl
  unfold Does at this
  rw [hcall] at this
  dsimp only at this
  refine Calls.mono this fun e w' he => ?_
  cases e with
  | returned v =>
    obtain ⟨ρ', A', hrt, hH, _, hA', hρ', hev⟩ := he
    refine ⟨{ size := hev.size, os := hev.os, tape := hev.tape, output := hev.output, block := fun b hb => hev.keep b hb fun ⟨_, _, h1, _⟩ => h1 rfl }, ?_⟩
    rcases hrt with ⟨_, hr⟩ | ⟨hl, _⟩
    · generalize hvs : [v] = us at hr
      cases hr with
      | sl0 => exact .inl ⟨rfl, _, _, by rw [(List.cons.inj hvs).1]⟩
      | @sl _ _ _ _ _ _ _ _ k rc hk hnc hcr hexr hrow hcs =>
        rcases hH.blk 0 _ rfl with ⟨l, hl, ⟨cs, el, fz, us, rest, hb1, _, hcs2, hrep⟩, _⟩ | ⟨h0, _⟩
        · obtain rfl : k = l := Option.some.inj (hk.symm.trans hl)
          refine .inr ⟨k.b, _, rc, by rw [(List.cons.inj hvs).1], ?_, hρ' 0 k hk, fun i hi => ?_⟩
          · rcases hev.Onew k.b ⟨0, k, (by intro h; cases h), hk, rfl⟩ with ⟨_, _, h1, _⟩ | h1
            · exact absurd rfl h1
            · exact h1
          · cases hrep with
            | arr q hq hr e =>
              have e' : us = (List.range n).map x := by rw [e]; exact flat_one fun i hi => rep_v_eq (hr i hi)
              have h1 : cs[i]? = some (x i) := by
                rw [← Array.getElem?_toList, hcs2, e', List.getElem?_append_left (by simp; exact hi)]
                simp [hi]
              simp [World.cell?, hb1, AV.off, h1]
        · rw [h0] at hk; cases hk
    · cases hl
  | panicked c => exact he.elim
  | outgrown => exact he.elim

/-- All that lay below n lies as it lay, but for the block B. -/
structure KeepB (n B : Nat) (W W' : World) : Prop where
  size : W.heap.size ≤ W'.heap.size
  block : ∀ k, k < n → k ≠ B → W'.heap[k]? = W.heap[k]?
theorem KeepB.refl (n B : Nat) (W : World) : KeepB n B W W := ⟨Nat.le_refl _, fun _ _ _ => rfl⟩
theorem KeepB.trans {n B : Nat} {X Y Z : World} (h : KeepB n B X Y) (k : KeepB n B Y Z) : KeepB n B X Z := ⟨Nat.le_trans h.size k.size, fun i h1 h2 => (k.block i h1 h2).trans (h.block i h1 h2)⟩
theorem KeepB.cell {n B : Nat} {X Y : World} (h : KeepB n B X Y) {p : Addr} (h1 : p.block < n) (h2 : p.block ≠ B) : Y.cell? p = X.cell? p := World.cell?_of_block (h.block _ h1 h2)
theorem KeepB.putObj {n B : Nat} {w : World} (hn : n ≤ w.heap.size) (W : World) (l : Nat) (o o' : Obj) (hl : w.heap.size ≤ l) (h : W.heap[l]? = some o) (_ : o.isCells = false) (_ : o.isWalk = false) : KeepB n B W (W.putObj l o') :=
  ⟨by simp, fun k hk _ => World.putObj_heap_other (by omega)⟩
theorem KeepB.of_below {n B : Nat} {X Y : World} (h : Below n X Y) : KeepB n B X Y := ⟨h.size, fun k hk _ => h.block k hk⟩

theorem ownsRow_le {w : World} {b b' : Nat} {e : TypeId} {size n : Nat} {v : Value} {xs : List Value} (h : w.ownsRow b e size v n xs) (hb : b' ≤ b) : w.ownsRow b' e size v n xs := by
  refine ⟨h.1, h.2.imp id ?_⟩
  rintro ⟨g, cap, cur, h1, h2, h3⟩
  exact ⟨g, cap, cur, h1, Nat.le_trans hb h2, h3⟩

/-- What 'out = append(out, ..)' owes, where the box lies before what the loop was begun with. -/
theorem boxed_appended {W w1 : World} {n₀ n₁ B : Nat} {t e : TypeId} {size : Nat} {v v' : Value} {k m : Nat} {xs ys : List Value} {tmp : Obj}
    (hv : Boxed W B t v) (hte : t ≠ e) (hrow : W.ownsRow n₁ e size v k xs) (hn : n₀ ≤ n₁) (hn₁ : n₁ ≤ W.heap.size) (hB : n₀ ≤ B)
    (hown' : w1.ownsRow n₁ e size v' m ys) (hgrow : (W.alloc tmp).grownBy w1 v.ownBlock) :
    Boxed w1 B t v ∧ Boxed (w1.setCell ⟨B, 0, none⟩ v') B t v' ∧ (w1.setCell ⟨B, 0, none⟩ v').ownsRow n₁ e size v' m ys ∧ KeepsOthers W (w1.setCell ⟨B, 0, none⟩ v') ∧ Below n₀ W (w1.setCell ⟨B, 0, none⟩ v') ∧ KeepB n₁ B W (w1.setCell ⟨B, 0, none⟩ v') := by
  obtain ⟨h1, h2, _, h4, h5⟩ := hv.appended hte (ownsRow_le hrow hn) (Nat.le_trans hn hn₁) hB (ownsRow_le hown' hn) hgrow
  refine ⟨h1, h2, hown'.kept (grownBy_setCell' w1 B v') (.inr (h1.not_row hte hown').symm), h4, h5, h5.size, fun j hj hjB => ?_⟩
  rw [Below.heap_setCell _ _ _ j hjB]
  refine (hgrow.block j (by simp; omega) ?_).trans ?_
  · intro ej
    rcases hrow.2 with ⟨rfl, _⟩ | ⟨g, cap, cur, rfl, hb, _, _⟩
    · simp [Value.ownBlock] at ej
    · obtain rfl : j = g := by simpa [Value.ownBlock] using ej
      omega
  · exact Below.heap_alloc _ _ _ (by omega)

/-- A row of numbers that lies below n, not in B. -/
def RowAt (n B : Nat) (W : World) (s : Value) (len : Nat) (x : Nat → Value) : Prop :=
  (len = 0 ∧ ∃ a c, s = .slice a 0 c) ∨ ∃ b o c, s = .slice (some ⟨b, o, none⟩) len c ∧ b < n ∧ b ≠ B ∧ ∀ i, i < len → W.cell? ⟨b, o + i, none⟩ = some (x i)
theorem RowAt.kept {n B : Nat} {X Y : World} {s : Value} {len : Nat} {x : Nat → Value} (h : RowAt n B X s len x) (k : KeepB n B X Y) : RowAt n B Y s len x :=
  h.imp id fun ⟨b, o, c, h1, h2, h3, h4⟩ => ⟨b, o, c, h1, h2, h3, fun i hi => (k.cell (p := ⟨b, o + i, none⟩) h2 h3).trans (h4 i hi)⟩

/-- What has come after k rounds. -/
def upto {α : Type} (f : Nat → α) (k : Nat) : List α := (List.range k).map f
theorem upto_succ {α : Type} (f : Nat → α) (k : Nat) : upto f (k + 1) = upto f k ++ [f k] := by simp [upto, List.range_succ]
theorem upto_length {α : Type} (f : Nat → α) (k : Nat) : (upto f k).length = k := by simp [upto]

end Go.Bu

namespace Go.Bu
open Go.RowKit

theorem lend_shape {H : List (Nat × Blk)} (n : Nat) : ∀ {x y : AV}, lend H n x = some y → SameShape x y := by
  induction n using Nat.strongRecOn with
  | _ n ih =>
    intro x y h
    cases n with
    | zero => simp [lend] at h
    | succ n =>
      by_cases hl : leaf x = true
      · exact .of_leaf hl ((lend_leaf h).trans hl)
      · cases x with
        | st fs =>
          simp only [lend] at h
          split at h
          · rename_i gs hg
            cases h
            obtain ⟨h1, h2⟩ := lends_get n hg
            refine shapes_st _ _ (fun i a b ha hb => ?_) h1.symm
            obtain ⟨k, z, hk, hz, hlz⟩ := h2 i a ha
            rw [hz] at hb
            cases hb
            exact ih k (by omega) hlz
          · cases h
        | arr a b f => simp only [lend] at h; cases h; exact .refl _
        | tup fs =>
          simp only [lend] at h
          split at h
          · cases h
            exact ⟨rfl, rfl, fun p => by cases p <;> simp [AV.vp], fun p hp => by cases p <;> simp [AV.off]⟩
          · cases h
        | _ => exact absurd rfl hl

def mapSnd {α β : Type} (f : α → β) : List (Nat × α) → List (Nat × β)
  | [] => []
  | (k, x) :: r => (k, f x) :: mapSnd f r
theorem look_mapSnd {α β : Type} (f : α → β) : ∀ (l : List (Nat × α)) (k : Nat), look (mapSnd f l) k = (look l k).map f
  | [], _ => rfl
  | (j, x) :: r, k => by
    simp only [mapSnd, look]
    split <;> first | rfl | exact look_mapSnd f r k
def frzT (H : List (Nat × Blk)) (x : AV) : AV := match x with
  | .tup fs => .tup fs
  | x => match lend H 40 x with | some y => y | none => x
def frzB (H : List (Nat × Blk)) : Blk → Blk
  | .c t => .c (frzT H t)
  | b => b
/-- The blocks L are data from now on. -/
def St.freeze (S : St) (L : List Nat) : St := { tm := mapSnd (frzT (keepOnly S.hp L)) S.tm, hp := mapSnd (frzB (keepOnly S.hp L)) (dropAll S.hp L), seen := S.seen }

section
variable {w : World} {A : Nat → Prop} {ρ : Ren} {H : List (Nat × Blk)}
theorem frz_shape (x : AV) : SameShape x (frzT H x) := by
  unfold frzT
  split
  · exact .refl _
  · split
    · exact lend_shape 40 (by assumption)
    · exact .refl _
theorem keeps_more (O : Nat → Prop) : Keeps w A ρ w (fun b => A b ∨ O b) ρ := ⟨fun _ h => ⟨.inl h, rfl⟩, fun _ _ h => h, fun _ c _ fz h => ⟨c, fz, h, rfl⟩⟩
theorem frz_rep (hH : HeapRel w A ρ H) {x : AV} {vs : List Value} (h : Rep w A ρ x vs) : Rep w (fun b => A b ∨ own ρ H b) ρ (frzT H x) vs := by
  unfold frzT
  split
  · exact h.keep (keeps_more _)
  · split
    · exact lend_rep hH 40 (by assumption) h ρ
    · exact h.keep (keeps_more _)
theorem frz_rt (hH : HeapRel w A ρ H) {x : AV} {v : Value} (h : RT w A ρ x v) : RT w (fun b => A b ∨ own ρ H b) ρ (frzT H x) v := by
  unfold frzT
  split
  · exact h.keep (keeps_more _)
  · rename_i hn
    split
    · rename_i y hy
      exact (lend_rv hH hy (h.rv fun l e => hn l e) ρ).rt
    · exact h.keep (keeps_more _)
end

theorem ent_freeze {C : Ctx} {N : Nat} {D : List Deferred} {k : Nat} (S : St) (L : List Nat) : Ent C N D k S (S.freeze L) := by
  intro ρ A a w h
  have hk : HeapRel w A ρ (keepOnly S.hp L) := by
    refine ⟨fun id b hb => ?_, fun i j x y h1 h2 => ?_, fun i x h1 => ?_⟩
    · rw [look_keepOnly] at hb
      split at hb
      · exact h.hp.blk id b hb
      · cases hb
    · refine h.hp.inj i j x y ?_ ?_
      · intro e; rw [look_keepOnly, e] at h1; split at h1 <;> exact h1 rfl
      · intro e; rw [look_keepOnly, e] at h2; split at h2 <;> exact h2 rfl
    · refine h.hp.apart i x ?_
      intro e; rw [look_keepOnly, e] at h1; split at h1 <;> exact h1 rfl
  have hlive : ∀ i, look (S.freeze L).hp i ≠ none → look S.hp i ≠ none ∧ ¬ memb L i = true := fun i hi => by
    have hi' : look (mapSnd (frzB (keepOnly S.hp L)) (dropAll S.hp L)) i ≠ none := hi
    rw [look_mapSnd, look_dropAll] at hi'
    split at hi'
    · exact absurd rfl hi'
    · rename_i hm
      exact ⟨fun e => hi' (by rw [e]; rfl), hm⟩
  have hkl : ∀ i, look (keepOnly S.hp L) i ≠ none → look S.hp i ≠ none ∧ memb L i = true := fun i hi => by
    rw [look_keepOnly] at hi
    split at hi
    · exact ⟨hi, by assumption⟩
    · exact absurd rfl hi
  refine ⟨ρ, fun b => A b ∨ own ρ (keepOnly S.hp L) b, ⟨fun t x hx => ?_, h.nt, h.df, ⟨fun id b hb => ?_, fun i j x y h1 h2 => ?_, fun i x h1 h2 => ?_⟩, fun b hb => ?_, h.rb, fun id hid => h.sn id (hlive id hid).1, fun g x hg => (h.gl g x hg).keep (keeps_more _)⟩, ?_, fun _ _ _ h => h⟩
  · have hx' : look (mapSnd (frzT (keepOnly S.hp L)) S.tm) t = some x := hx
    rw [look_mapSnd] at hx'
    cases hy : look S.tm t with
    | none => rw [hy] at hx'; cases hx'
    | some y =>
      rw [hy] at hx'
      cases hx'
      obtain ⟨v, h1, h2⟩ := h.tm t y hy
      exact ⟨v, h1, frz_rt hk h2⟩
  · have hb' : look (mapSnd (frzB (keepOnly S.hp L)) (dropAll S.hp L)) id = some b := hb
    rw [look_mapSnd, look_dropAll] at hb'
    split at hb'
    · cases hb'
    · cases hy : look S.hp id with
      | none => rw [hy] at hb'; cases hb'
      | some b0 =>
        rw [hy] at hb'
        cases hb'
        rcases h.hp.blk id b0 hy with ⟨l, q1, q2, q3⟩ | ⟨q1, e, f, rfl⟩
        · refine .inl ⟨l, q1, ?_, fun t ht => ?_⟩
          · cases b0 with
            | m => exact q2.elim
            | c t =>
              obtain ⟨cs, el, fz, vs, rest, e1, e2, e3, e4⟩ := q2
              exact ⟨cs, el, fz, vs, rest, e1, e2, e3, frz_rep hk e4⟩
          · cases b0 with
            | m => cases ht
            | c t0 => cases ht; exact (q3 t0 rfl).trans (frz_shape t0)
        · exact .inr ⟨q1, e, f, rfl⟩
  · exact h.hp.inj i j x y (hlive i h1).1 (hlive j h2).1
  · rintro (hA | ⟨j, y, g1, g2, g3⟩)
    · exact h.hp.apart i x (hlive i h1).1 h2 hA
    · have := h.hp.inj j i y x (hkl j g1).1 (hlive i h1).1 g2 h2 g3
      subst this
      exact (hlive j h1).2 (hkl j g1).2
  · rcases hb with hA | ⟨j, y, g1, g2, rfl⟩
    · exact h.Ab b hA
    · exact (h.rb j y g2).1
  · refine ⟨Nat.le_refl _, rfl, rfl, rfl, fun _ _ _ => rfl, fun _ c _ fz h => ⟨c, fz, h, rfl⟩, fun _ h => .inl h, fun b hb => ?_, fun b hb => ?_⟩
    · rcases hb with hA | ⟨j, y, g1, g2, g3⟩
      · exact .inl hA
      · exact .inr (.inl ⟨j, y, (hkl j g1).1, g2, g3⟩)
    · obtain ⟨j, y, g1, g2, g3⟩ := hb
      exact .inl ⟨j, y, (hlive j g1).1, g2, g3⟩

end Go.Bu

