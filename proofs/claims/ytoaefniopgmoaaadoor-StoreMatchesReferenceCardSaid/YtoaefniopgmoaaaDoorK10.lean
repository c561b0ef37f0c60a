/- Contracts from the kit's own, for functions that give back a new row; for one that ranges over a function. -/
import Derived.Test.YtoaefniopgmoaaaDoorK9
import Derived.RangeFuncBox
import Derived.RangeFuncLeaves
import Derived.Lib.Overlaps
import Derived.Laws.Externs
import Derived.SizedLaws
namespace Go.Bu
open Go.RowKit
structure KeepB (n B : Nat) (W W' : World) : Prop where
  size : W.heap.size ≤ W'.heap.size
  block : ∀ k, k < n → k ≠ B → W'.heap[k]? = W.heap[k]?
theorem KeepB.refl (n B : Nat) (W : World) : KeepB n B W W := ⟨Nat.le_refl _, fun _ _ _ => rfl⟩
theorem KeepB.trans {n B : Nat} {X Y Z : World} (h : KeepB n B X Y) (k : KeepB n B Y Z) : KeepB n B X Z := ⟨Nat.le_trans h.size k.size, fun i h1 h2 => (k.block i h1 h2).trans (h.block i h1 h2)⟩
theorem KeepB.cell {n B : Nat} {X Y : World} (h : KeepB n B X Y) {p : Addr} (h1 : p.block < n) (h2 : p.block ≠ B) : Y.cell? p = X.cell? p := World.cell?_of_block (h.block _ h1 h2)
theorem KeepB.putObj {n B : Nat} {w : World} (hn : n ≤ w.heap.size) (W : World) (l : Nat) (o o' : Obj) (hl : w.heap.size ≤ l) (_h : W.heap[l]? = some o) (_ : o.isCells = false) (_ : o.isWalk = false) : KeepB n B W (W.putObj l o') :=
 ⟨by simp, fun k hk _ => World.putObj_heap_other (by omega)⟩
end Go.Bu
namespace Go.Bu
open Go.RowKit
theorem lend_shape {H : List (Nat × Blk)} (n : Nat) : ∀ {x y : AV}, lend H n x = some y → SameShape x y := by
 induction n using Nat.strongRecOn with
 | _ n ih =>
  intro x y h
  cases n with
  | zero => simp [lend] at h
  | succ n =>
   by_cases hl : leaf x = true
   ·exact .of_leaf hl ((lend_leaf h).trans hl)
   ·cases x with
    | st fs =>
     simp only [lend] at h
     split at h
     ·rename_i gs hg
      cases h
      obtain ⟨h1, h2⟩ := lends_get n hg
      refine shapes_st _ _ (fun i a b ha hb => ?_) h1.symm
      obtain ⟨k, z, hk, hz, hlz⟩ := h2 i a ha
      rw [hz] at hb
      cases hb
      exact ih k (by omega) hlz
     ·cases h
    | arr a b f => simp only [lend] at h; cases h; exact .refl _
    | tup fs =>
     simp only [lend] at h
     split at h
     ·cases h
      exact ⟨rfl, rfl, fun p => by cases p <;> simp [AV.vp], fun p hp => by cases p <;> simp [AV.off]⟩
     ·cases h
    | _ => exact absurd rfl hl
def mapSnd {α β : Type} (f : α → β) : List (Nat × α) → List (Nat × β)
 | [] => []
 | (k, x) :: r => (k, f x) :: mapSnd f r
theorem look_mapSnd {α β : Type} (f : α → β) : ∀ (l : List (Nat × α)) (k : Nat), look (mapSnd f l) k = (look l k).map f
 | [], _ => rfl
 | (j, x) :: r, k => by
  simp only [mapSnd, look]
  split <;> first | rfl | exact look_mapSnd f r k
def frzT (H : List (Nat × Blk)) (x : AV) : AV := match x with
 | .tup fs => .tup fs
 | x => match lend H 40 x with | some y => y | none => x
def frzB (H : List (Nat × Blk)) : Blk → Blk
 | .c t => .c (frzT H t)
 | b => b
def St.freeze (S : St) (L : List Nat) : St := { tm := mapSnd (frzT (keepOnly S.hp L)) S.tm, hp := mapSnd (frzB (keepOnly S.hp L)) (dropAll S.hp L), seen := S.seen }
section
variable {w : World} {A : Nat → Prop} {ρ : Ren} {H : List (Nat × Blk)}
theorem frz_row1 {x : AV} (h1 : row1 x = true) : row1 (frzT H x) = true := by
 unfold row1 at h1
 split at h1
 ·unfold frzT
  split
  ·rename_i he; cases he
  ·split
   ·rename_i h; cases h; rfl
   ·rfl
 ·cases h1
theorem frz_shape (x : AV) : SameShape x (frzT H x) := by
 unfold frzT
 split
 ·exact .refl _
 ·split
  ·exact lend_shape 40 (by assumption)
  ·exact .refl _
theorem keeps_more (O : Nat → Prop) : Keeps w A ρ w (fun b => A b ∨ O b) ρ := ⟨fun _ h => ⟨.inl h, rfl⟩, fun _ _ h => h, fun _ c _ fz h => ⟨c, fz, h, rfl⟩⟩
theorem frz_rep (hH : HeapRel w A ρ H) {x : AV} {vs : List Value} (h : Rep w A ρ x vs) : Rep w (fun b => A b ∨ own ρ H b) ρ (frzT H x) vs := by
 unfold frzT
 split
 ·exact h.keep (keeps_more _)
 ·split
  ·exact lend_rep hH 40 (by assumption) h ρ
  ·exact h.keep (keeps_more _)
theorem frz_rt (hH : HeapRel w A ρ H) {x : AV} {v : Value} (h : RT w A ρ x v) : RT w (fun b => A b ∨ own ρ H b) ρ (frzT H x) v := by
 unfold frzT
 split
 ·exact h.keep (keeps_more _)
 ·rename_i hn
  split
  ·rename_i y hy
   exact (lend_rv hH hy (h.rv fun l e => hn l e) ρ).rt
  ·exact h.keep (keeps_more _)
end
theorem MarksOK.wider {D : Dom} {ρ : Ren} {A A' : Nat → Prop} {w : World} {l : List Deferred} (h : MarksOK D ρ A w l) (hx : ∀ b, A b → A' b) (hA : ∀ b, A' b → A b ∨ ∃ c e fz, w.heap[b]? = some (.cells c e fz)) : MarksOK D ρ A' w l := by
 have key : ∀ (r : Nat) (o : Obj), w.heap[r]? = some o → (∀ c e fz, o ≠ .cells c e fz) → ¬ A r → ¬ A' r := fun r o h4 ho h3 ha => by
  rcases hA r ha with g | ⟨c, e, fz, g⟩
  ·exact h3 g
  ·rw [h4] at g; cases g; exact ho _ _ _ rfl
 refine ⟨fun d hd => ?_, h.diff, D.stab h.ex ⟨fun b hb => ⟨hx b hb, rfl⟩, fun _ _ h => h, fun _ c _ fz h => ⟨c, fz, h, rfl⟩⟩, fun i r hr => ⟨key i _ (h.rc i r hr).2 (fun _ _ _ e => by cases e) (h.rc i r hr).1, (h.rc i r hr).2⟩, h.bs⟩
 obtain ⟨r, h1, h2, h3, h4⟩ := h.each d hd
 exact ⟨r, h1, h2, key r _ h4 (fun _ _ _ e => by cases e) h3, h4⟩
theorem ent_freeze {C : Ctx} {N : Nat} {D : Dom} {k : Nat} (S : St) (L : List Nat) : Ent C N D k S (S.freeze L) := by
 intro hD ρ A a w h
 have hk : HeapRel w A ρ (keepOnly S.hp L) := by
  refine ⟨fun id b hb => ?_, fun i j x y h1 h2 => ?_, fun i x h1 => ?_⟩
  ·rw [look_keepOnly] at hb
   split at hb
   ·exact h.hp.blk id b hb
   ·cases hb
  ·refine h.hp.inj i j x y ?_ ?_
   ·intro e; rw [look_keepOnly, e] at h1; split at h1 <;> exact h1 rfl
   ·intro e; rw [look_keepOnly, e] at h2; split at h2 <;> exact h2 rfl
  ·refine h.hp.apart i x ?_
   intro e; rw [look_keepOnly, e] at h1; split at h1 <;> exact h1 rfl
 have hlive : ∀ i, look (S.freeze L).hp i ≠ none → look S.hp i ≠ none ∧ ¬ memb L i = true := fun i hi => by
  have hi' : look (mapSnd (frzB (keepOnly S.hp L)) (dropAll S.hp L)) i ≠ none := hi
  rw [look_mapSnd, look_dropAll] at hi'
  split at hi'
  ·exact absurd rfl hi'
  ·rename_i hm
   exact ⟨fun e => hi' (by rw [e]; rfl), hm⟩
 have hkl : ∀ i, look (keepOnly S.hp L) i ≠ none → look S.hp i ≠ none ∧ memb L i = true := fun i hi => by
  rw [look_keepOnly] at hi
  split at hi
  ·exact ⟨hi, by assumption⟩
  ·exact absurd rfl hi
 refine ⟨ρ, fun b => A b ∨ own ρ (keepOnly S.hp L) b, ⟨fun t x hx => ?_, h.nt, h.df.wider (fun b hb => .inl hb) fun b hb => hb.imp id fun ⟨id, l, g1, g2, g3⟩ => h.hp.own_cells ⟨id, l, (hkl id g1).1, g2, g3⟩, ⟨fun id b hb => ?_, fun i j x y h1 h2 => ?_, fun i x h1 h2 => ?_⟩, fun b hb => ?_, h.rb, fun id hid => h.sn id (hlive id hid).1, fun g x hg => (h.gl g x hg).keep (keeps_more _)⟩, ?_, fun _ _ _ h => h⟩
 ·have hx' : look (mapSnd (frzT (keepOnly S.hp L)) S.tm) t = some x := hx
  rw [look_mapSnd] at hx'
  cases hy : look S.tm t with
  | none => rw [hy] at hx'; cases hx'
  | some y =>
   rw [hy] at hx'
   cases hx'
   obtain ⟨v, h1, h2⟩ := h.tm t y hy
   exact ⟨v, h1, frz_rt hk h2⟩
 ·have hb' : look (mapSnd (frzB (keepOnly S.hp L)) (dropAll S.hp L)) id = some b := hb
  rw [look_mapSnd, look_dropAll] at hb'
  split at hb'
  ·cases hb'
  ·cases hy : look S.hp id with
   | none => rw [hy] at hb'; cases hb'
   | some b0 =>
    rw [hy] at hb'
    cases hb'
    rcases h.hp.blk id b0 hy with ⟨l, q1, q2, q3⟩ | ⟨q1, e, f, rfl⟩
    ·refine .inl ⟨l, q1, ?_, fun t ht => ?_⟩
     ·cases b0 with
      | m => exact q2.elim
      | c t =>
       obtain ⟨cs, el, fz, vs, rest, e1, e2, e3, e4, e5⟩ := q2
       exact ⟨cs, el, fz, vs, rest, e1, e2.imp_right fun q => ⟨q.1, frz_row1 q.2⟩, e3, frz_rep hk e4, e5⟩
     ·cases b0 with
      | m => cases ht
      | c t0 => cases ht; exact (q3 t0 rfl).trans (frz_shape t0)
    ·exact .inr ⟨q1, e, f, rfl⟩
 ·exact h.hp.inj i j x y (hlive i h1).1 (hlive j h2).1
 ·rintro (hA | ⟨j, y, g1, g2, g3⟩)
  ·exact h.hp.apart i x (hlive i h1).1 h2 hA
  ·have := h.hp.inj j i y x (hkl j g1).1 (hlive i h1).1 g2 h2 g3
   subst this
   exact (hlive j h1).2 (hkl j g1).2
 ·rcases hb with hA | ⟨j, y, g1, g2, rfl⟩
  ·exact h.Ab b hA
  ·exact (h.rb j y g2).1
 ·refine ⟨Nat.le_refl _, rfl, rfl, rfl, fun _ _ _ => rfl, fun _ c _ fz h => ⟨c, fz, h, rfl⟩, fun _ h => .inl h, fun b hb => ?_, fun b hb => ?_⟩
  ·rcases hb with hA | ⟨j, y, g1, g2, g3⟩
   ·exact .inl hA
   ·exact .inr (.inl ⟨j, y, (hkl j g1).1, g2, g3⟩)
  ·obtain ⟨j, y, g1, g2, g3⟩ := hb
   exact .inl ⟨j, y, (hlive j g1).1, g2, g3⟩
end Go.Bu
namespace Go.Bu
open Go.RowKit
theorem run_ovl_zero {P : Program} (w : World) (tS tR e : TypeId) (ht : P.underlying tS = some (.slice e)) (size : Nat) (hz : ∀ w, (Go.sizeOf e).run P w = .ok size w) (a b : Option Addr) (la ca lb cb : Nat) (h0 : la = 0 ∨ lb = 0) :
  (Extern.SlicesOverlaps.overlaps #[tS, tS] #[tR] #[.slice a la ca, .slice b lb cb]).run P w = .ok (.bool false) w := by
 have h1 : la = 0 ∨ lb = 0 ∨ size = 0 := h0.elim .inl fun h => .inr (.inl h)
 change Sem.run P (α := Value) (do
  let some t := (#[tS, tS] : Array TypeId)[0]? | stuck "slices.overlaps: no parameter types"
  let .slice elem ← underlying t | stuck "slices.overlaps: slice type expected"
  let size ← sizeOf elem
  match a, b with
  | some a, some b =>
   if la = 0 ∨ lb = 0 ∨ size = 0 then pure (Value.bool false)
   else if a.block != b.block && (← frozen a) && (← frozen b) then unsupported .addressObserved
   else do
    if a.block != b.block then do
     noView a; noView b
     if ← mayBeOne a b then return Value.bool ((← choose (.extern "sameAddr.stringBytes" 2)) == 1)
    pure (Value.bool (a.block == b.block && a.off < b.off + lb * size && b.off < a.off + la * size))
  | _, _ => pure (Value.bool false)) w = _
 cases a <;> cases b <;> simp [run_underlying ht, hz, h1]
theorem fun_ovl {C : Ctx} {P : Program} {g : FuncId} {fn : Func} {tS tR et : TypeId} (hf : P.funcs[g]? = some fn) (hname : (fn.name == "runtime.NumGoroutine") = false) (hb : fn.body.isNone = true) (hn : Extern.findNext fn = none)
  (he : Extern.find fn = some (Extern.SlicesOverlaps.overlaps #[tS, tS] #[tR])) (ht : P.underlying tS = some (.slice et)) (size : Nat) (hz : ∀ w, (Go.sizeOf et).run P w = .ok size w)
  {p p' : List Nat} {o o' n n' c c' e e' : Nat} {ex ex' : Bool} {t t' : AV} (hr : row1 t = false) (hp' : 0 < e') :
  Fun C P g [.sl 0 p o n c ex e, .sl 1 p' o' n' c' ex' e'] [(0, .c t), (1, .c t')] (.v (.bool false)) [(0, .c t), (1, .c t')] := by
 intro ρ A w vs hlen hrv hH hAb hrb hgl
 match vs, hlen with
 | [u, u'], _ =>
  have h0 := (hrv 0 _ _ rfl rfl)
  have h1 := (hrv 1 _ _ rfl rfl)
  have r0 : Rep w A ρ (.sl 0 p o n c ex e) [u] := by rcases h0 with ⟨_, h⟩ | ⟨h, _⟩; exact h; cases h
  have r1 : Rep w A ρ (.sl 1 p' o' n' c' ex' e') [u'] := by rcases h1 with ⟨_, h⟩ | ⟨h, _⟩; exact h; cases h
  have fin : (callFunc g #[u, u']).run P w = .ok (.value (.bool false)) w → Does P g [u, u'].toArray w fun v w' => ∃ ρ' A', RT w' A' ρ' (.v (.bool false)) v ∧ HeapRel w' A' ρ' [(0, .c t), (1, .c t')] ∧ (∀ id l, ρ id = some l → ρ' id = some l) ∧ (∀ b, A' b → b < w'.heap.size) ∧
   (∀ id l, ρ' id = some l → l.b < w'.heap.size) ∧ Evo w A (own ρ [(0, .c t), (1, .c t')]) w' A' (own ρ' [(0, .c t), (1, .c t')]) := fun hrun => by
   unfold Does
   rw [show [u, u'].toArray = #[u, u'] from rfl, hrun]
   exact ⟨ρ, A, .of_leaf rfl (.v rfl), hH, fun _ _ h => h, hAb, fun id l h => (hrb id l h).1, .refl _ _ _⟩
  have run0 : ∀ a b la ca lb cb, la = 0 ∨ lb = 0 → (callFunc g #[.slice a la ca, .slice b lb cb]).run P w = .ok (.value (.bool false)) w := fun a b la ca lb cb hz0 => by
   rw [run_callFunc_extern hf hname hb hn he, run_ovl_zero w tS tR et ht size hz a b la ca lb cb hz0]; rfl
  generalize hu : u = u0 at r0
  generalize hu' : u' = u1 at r1
  cases r0 with
  | sl0 =>
   subst hu
   cases r1 with
   | sl0 => subst hu'; exact fin (run0 _ _ _ _ _ _ (.inl rfl))
   | sl _ _ _ _ _ _ => subst hu'; exact fin (run0 _ _ _ _ _ _ (.inl rfl))
  | @sl _ _ _ _ _ _ _ _ k rc hρ a1 a2 a3 a4 a5 =>
   subst hu
   cases r1 with
   | sl0 => subst hu'; exact fin (run0 _ _ _ _ _ _ (.inr rfl))
   | @sl _ _ _ _ _ _ _ _ k' rc' hρ' b1 b2 b3 b4 b5 =>
    subst hu'
    by_cases hn0 : n' = 0
    ·exact fin (run0 _ _ _ _ _ _ (.inr hn0))
    refine fin ?_
    have hne : k.b ≠ k'.b := fun hk => by
     have := hH.inj 0 1 k k' (by simp [look]) (by simp [look]) hρ hρ' hk
     cases this
    rcases hH.blk 0 _ rfl with ⟨l, q1, q2, _⟩ | ⟨q1, _⟩
    ·rw [hρ] at q1; cases q1
     obtain ⟨cs, el, fz, us, rest, e1, e2, e3, e4, e5⟩ := q2
     have hfz : fz.1 = fz.2 := by
      rcases e2 with h | ⟨_, h⟩
      ·exact h
      ·rw [hr] at h; cases h
     obtain ⟨cs', el', fz', e1', hsz⟩ := b5
     have hpos : cs'.size ≠ 0 := by
      have : 0 < (o' + rc') * e' := Nat.mul_pos (by omega) hp'
      omega
     rw [run_callFunc_extern hf hname hb hn he, Lib.run_overlaps_apart w tS tR et ht size hz ⟨k.b, _, none⟩ ⟨k'.b, _, none⟩ n rc n' rc' hne el el' cs.size cs'.size (by simp [World.shape?, e1]) (by simp [World.shape?, e1']) hpos (by simp [World.frozen?, e1]; omega) (by simp [World.frozen?, e1]; omega)]
     rfl
    ·rw [hρ] at q1; cases q1
theorem flat_take {e : Nat} (L : List Value) : ∀ n, n * e ≤ L.length → flat n (fun i => (L.drop (i * e)).take e) = L.take (n * e) := by
 intro n hn
 have hlen : ∀ i, i < n → ((L.drop (i * e)).take e).length = e := fun i hi => by
  have : (i + 1) * e ≤ n * e := Nat.mul_le_mul_right _ hi
  rw [Nat.add_mul] at this
  simp; omega
 apply List.ext_getElem?
 intro j
 by_cases hj : j < n * e
 ·obtain ⟨p1, p2, p3⟩ := flat_get hlen hj
  rw [p1, List.getElem?_take_of_lt p3, List.getElem?_drop, List.getElem?_take_of_lt hj]
  congr 1
  have := Nat.div_add_mod j e
  rw [Nat.mul_comm] at this
  exact this
 ·rw [List.getElem?_eq_none (by rw [flat_len hlen]; omega), List.getElem?_eq_none (by simp; omega)]
theorem blk_cut {w : World} {A : Nat → Prop} {ρ ρ' : Ren} {b mm m e : Nat} {F F' : Nat → AV} (hm : m ≤ mm) (hF : ∀ i, i < m → F' i = F i) (h : BlkRel w A ρ b (.c (.arr mm e F'))) : BlkRel w A ρ' b (.c (.arr m e F)) := by
 obtain ⟨cs, el, fz, us, rest, e1, e2, e3, e4, e5⟩ := h
 have hn := e4.nota
 cases e4 with
 | arr g h1 h2 h3 =>
  obtain ⟨r, rfl⟩ : ∃ r, mm = m + r := ⟨mm - m, by omega⟩
  rw [flat_add] at h3
  refine ⟨cs, el, fz, flat m g, flat r (fun i => g (m + i)) ++ rest, e1, e2.imp_right fun q => ⟨q.1, ?_⟩, by rw [e3, h3, List.append_assoc], .arr g (fun i hi => h1 i (by omega)) (fun i hi => hF i hi ▸ h2 i (by omega)) rfl, fun x hx => ?_⟩
  ·have h4 := q.2
   unfold row1 at h4 ⊢
   split at h4
   ·rename_i he; cases he; rfl
   ·cases h4
  ·exact (List.mem_append.1 hx).elim (fun h4 => hn x (by rw [h3]; exact List.mem_append_right _ h4)) (e5 x)
theorem fun_caps {C : Ctx} {P : Program} {g : FuncId} {x y : AV} {n e m e' n1 e1 : Nat} {f f1 F : Nat → AV} (mk : List Value → AV)
  (hmk : ∀ w A (xs : List Value), xs.length = e → (∀ z, z ∈ xs → nota z = true) → Rep w A (fun _ => none) (mk xs) xs)
  (hx : x.noid = true) (_hxt : noTup x = true) (hy : ∃ p o k c ex e2, y = .sl 1 p o k c ex e2)
  (h : ∀ rc (sp : Nat → List Value), n ≤ rc → (∀ i, n ≤ i → i < rc → (sp i).length = e) → (∀ i z, z ∈ sp i → nota z = true) → ∃ kk mm F', m ≤ mm ∧ (∀ i, i < m → F' i = F i) ∧ Fun C P g [.sl 0 [] 0 n rc true e, x, y] [(0, .c (.arr rc e fun i => if i < n then f i else mk (sp i))), (1, .c (.arr n1 e1 f1))] (.sl kk [] 0 m m false e') [(kk, .c (.arr mm e' F'))]) :
  Fun C P g [.sl 0 [] 0 n n false e, x, y] [(0, .c (.arr n e f)), (1, .c (.arr n1 e1 f1))] (.sl 2 [] 0 m m false e') [(2, .c (.arr m e' F))] := by
 intro ρ A w vs hlen hrv hH hAb hrb hgl
 obtain ⟨p, o, k1, c1, ex, e2, rfl⟩ := hy
 match vs, hlen with
 | [u, ux, uy], _ =>
  have r0 : Rep w A ρ (.sl 0 [] 0 n n false e) [u] := by rcases hrv 0 _ _ rfl rfl with ⟨_, h⟩ | ⟨h, _⟩; exact h; cases h
  have r1 : RV w A ρ x ux := hrv 1 _ _ rfl rfl
  have r2 : Rep w A ρ (.sl 1 p o k1 c1 ex e2) [uy] := by rcases hrv 2 _ _ rfl rfl with ⟨_, h⟩ | ⟨h, _⟩; exact h; cases h
  have hρ2 : ρ 2 = none := by
   cases hq : ρ 2 with
   | none => rfl
   | some l => exact absurd (hrb 2 l hq).2 (by simp [look])
  -- the call with another name for the row
  have main : ∀ (rc : Nat) (sp : Nat → List Value) (ρ' : Ren), n ≤ rc → (∀ i, n ≤ i → i < rc → (sp i).length = e) → (∀ i z, z ∈ sp i → nota z = true) → (∀ i, i ≠ 0 → ρ' i = ρ i) → (∀ l, ρ 0 = some l → ∃ l', ρ' 0 = some l' ∧ l'.b = l.b) → (∀ l', ρ' 0 = some l' → ∃ l, ρ 0 = some l ∧ l'.b = l.b) →
    Rep w A ρ' (.sl 0 [] 0 n rc true e) [u] → ((∃ l, ρ' 0 = some l ∧ BlkRel w A ρ' l.b (.c (.arr rc e fun i => if i < n then f i else mk (sp i))) ∧ SameShape l.t (.arr rc e fun i => if i < n then f i else mk (sp i))) ∨ (ρ' 0 = none ∧ rc = 0)) →
    Does P g [u, ux, uy].toArray w fun v w' => ∃ ρ' A', RT w' A' ρ' (.sl 2 [] 0 m m false e') v ∧ HeapRel w' A' ρ' [(2, .c (.arr m e' F))] ∧ (∀ id l, ρ id = some l → ρ' id = some l) ∧ (∀ b, A' b → b < w'.heap.size) ∧
     (∀ id l, ρ' id = some l → l.b < w'.heap.size) ∧ Evo w A (own ρ [(0, .c (.arr n e f)), (1, .c (.arr n1 e1 f1))]) w' A' (own ρ' [(2, .c (.arr m e' F))]) := by
   intro rc sp ρ' hn hsl hsp ho h0 h0' hr hblk
   obtain ⟨kk, mm, F', hmm, hFF, hF⟩ := h rc sp hn hsl hsp
   have hb0 : ∀ l', ρ' 0 = some l' → ∃ l, ρ 0 = some l ∧ l'.b = l.b := h0'
   have hlk : ∀ (b0 b1 : Blk) id, look [(0, b0), (1, b1)] id ≠ none ↔ id = 0 ∨ id = 1 := fun b0 b1 id => by
    simp only [look]
    by_cases e0 : 0 = id
    ·subst e0; simp
    ·by_cases e1 : 1 = id
     ·subst e1; simp
     ·simp [beq_false e0, beq_false e1]; omega
   refine (hF ρ' A w [u, ux, uy] rfl (fun i y v hy hv => ?_) ?_ hAb (fun id l hl => ?_) fun g x hg => ?_).mono fun v w' => ?_
   ·match i with
    | 0 => cases hy; cases hv; exact .inl ⟨rfl, hr⟩
    | 1 =>
     cases hy; cases hv
     rcases r1 with ⟨q1, q2⟩ | ⟨q1, us, q2, q3⟩
     ·exact .inl ⟨q1, q2.noid hx ρ'⟩
     ·exact .inr ⟨q1, us, q2, q3.noid hx ρ'⟩
    | 2 =>
     cases hy; cases hv
     refine .inl ⟨rfl, ?_⟩
     generalize hu : uy = u2 at r2
     cases r2 with
     | sl0 => exact .sl0
     | @sl _ _ _ _ _ _ _ _ k rc hρ a1 a2 a3 a4 a5 => exact .sl ((ho 1 (by decide)).trans hρ) a1 a2 a3 a4 a5
    | i + 3 => cases hy
   ·refine ⟨fun id b hb => ?_, fun id id' l l' g1 g2 g3 g4 g5 => ?_, fun id l g1 g2 => ?_⟩
    ·have hid := (hlk _ _ id).1 (by rw [hb]; simp)
     rcases hid with rfl | rfl
     ·cases hb
      rcases hblk with ⟨l, q1, q2, q3⟩ | ⟨q1, rfl⟩
      ·exact .inl ⟨l, q1, q2, fun t ht => by cases ht; exact q3⟩
      ·exact .inr ⟨q1, _, _, rfl⟩
     ·cases hb
      rw [ho 1 (by decide)]
      rcases hH.blk 1 _ rfl with ⟨l, q1, q2, q3⟩ | q
      ·obtain ⟨cs, el, fz, us, rest, e1, e2, e3, e4, e5⟩ := q2
       refine .inl ⟨l, q1, ⟨cs, el, fz, us, rest, e1, e2, e3, e4.noid rfl ρ', e5⟩, q3⟩
      ·exact .inr q
    ·have hid := (hlk _ _ id).1 g1
     have hid' := (hlk _ _ id').1 g2
     rcases hid with rfl | rfl <;> rcases hid' with rfl | rfl
     ·rfl
     ·obtain ⟨l0, z1, z2⟩ := hb0 l g3
      exact hH.inj 0 1 l0 l' (by simp [look]) (by simp [look]) z1 ((ho 1 (by decide)) ▸ g4) (by rw [← z2]; exact g5)
     ·obtain ⟨l0, z1, z2⟩ := hb0 l' g4
      exact hH.inj 1 0 l l0 (by simp [look]) (by simp [look]) ((ho 1 (by decide)) ▸ g3) z1 (by rw [← z2]; exact g5)
     ·rfl
    ·have hid := (hlk _ _ id).1 g1
     rcases hid with rfl | rfl
     ·obtain ⟨l0, z1, z2⟩ := hb0 l g2
      rw [z2]; exact hH.apart 0 l0 (by simp [look]) z1
     ·exact hH.apart 1 l (by simp [look]) ((ho 1 (by decide)) ▸ g2)
   ·by_cases e0 : id = 0
    ·subst e0
     obtain ⟨l0, z1, z2⟩ := hb0 l hl
     exact ⟨by rw [z2]; exact (hrb 0 l0 z1).1, by simp [look]⟩
    ·rw [ho id e0] at hl
     exact ⟨(hrb id l hl).1, (hlk _ _ id).2 ((hlk _ _ id).1 (hrb id l hl).2)⟩
   ·rcases hgl g x hg with ⟨q1, q2⟩ | ⟨q1, _⟩
    ·exact .inl ⟨q1, q2.noid rfl ρ'⟩
    ·cases q1
   ·rintro ⟨ρ2, A2, s1, s2, s3, s4, s5, s6⟩
    obtain ⟨ρ3, hρ3⟩ : ∃ ρ3 : Ren, ρ3 = fun i => if i = 2 then (ρ2 kk).map (fun l => (⟨l.b, .arr m e' F⟩ : Loc)) else ρ i := ⟨_, rfl⟩
    have h32 : ρ3 2 = (ρ2 kk).map (fun l => (⟨l.b, .arr m e' F⟩ : Loc)) := by simp [hρ3]
    have h32s : ∀ l, ρ2 kk = some l → ρ3 2 = some ⟨l.b, .arr m e' F⟩ := fun l hl => by rw [h32, hl]; rfl
    have h32r : ∀ l, ρ3 2 = some l → ∃ l2, ρ2 kk = some l2 ∧ l2.b = l.b := fun l hl => by
     rw [h32] at hl
     cases hq : ρ2 kk with
     | none => rw [hq] at hl; cases hl
     | some l2 => rw [hq] at hl; cases hl; exact ⟨l2, rfl, rfl⟩
    have h3o : ∀ i, i ≠ 2 → ρ3 i = ρ i := fun i hi => by simp [hρ3, hi]
    have hl1 : ∀ (q : Nat) (b : Blk) id, look [(q, b)] id ≠ none ↔ id = q := fun q b id => by
     simp only [look]
     by_cases e0 : q = id
     ·subst e0; simp
     ·simp [beq_false e0]; omega
    have hown : own ρ3 [(2, .c (.arr m e' F))] = own ρ2 [(kk, .c (.arr mm e' F'))] := by
     funext b
     refine propext ⟨?_, ?_⟩
     ·rintro ⟨id, l, z1, z2, z3⟩
      rw [(hl1 _ _ id).1 z1] at z2
      obtain ⟨l2, y1, y2⟩ := h32r l z2
      exact ⟨kk, l2, (hl1 _ _ kk).2 rfl, y1, by rw [y2]; exact z3⟩
     ·rintro ⟨id, l, z1, z2, z3⟩
      rw [(hl1 _ _ id).1 z1] at z2
      exact ⟨2, _, (hl1 _ _ 2).2 rfl, h32s l z2, z3⟩
    have howo : own ρ' [(0, .c (.arr rc e fun i => if i < n then f i else mk (sp i))), (1, .c (.arr n1 e1 f1))] = own ρ [(0, .c (.arr n e f)), (1, .c (.arr n1 e1 f1))] := by
     funext b
     refine propext ⟨?_, ?_⟩
     ·rintro ⟨id, l, z1, z2, z3⟩
      rcases (hlk _ _ id).1 z1 with rfl | rfl
      ·obtain ⟨l0, y1, y2⟩ := hb0 l z2
       exact ⟨0, l0, by simp [look], y1, by rw [← y2]; exact z3⟩
      ·exact ⟨1, l, by simp [look], (ho 1 (by decide)) ▸ z2, z3⟩
     ·rintro ⟨id, l, z1, z2, z3⟩
      rcases (hlk _ _ id).1 z1 with rfl | rfl
      ·obtain ⟨l', y1, y2⟩ := h0 l z2
       exact ⟨0, l', by simp [look], y1, by rw [y2]; exact z3⟩
      ·exact ⟨1, l, by simp [look], (ho 1 (by decide)).trans z2, z3⟩
    refine ⟨ρ3, A2, ?_, ⟨fun id b hb => ?_, fun id id' l l' g1 g2 _ _ _ => ?_, fun id l g1 g2 => ?_⟩, fun id l hl => ?_, s4, fun id l hl => ?_, by rw [hown, ← howo]; exact s6⟩
    ·have s1 := s1.leaf rfl
     refine .of_leaf rfl ?_
     cases s1 with
     | sl0 => exact .sl0
     | @sl _ _ _ _ _ _ _ _ k rc hρ a1 a2 a3 a4 a5 =>
      have := Rep.sl (w := w') (A := A2) (ρ := ρ3) (id := 2) (p := []) (o := 0) (n := m) (c := m) (ex := false) (e := e') (k := ⟨k.b, .arr m e' F⟩) (rc := rc) (h32s k hρ) a1 a2 a3 (by simpa using row_arr _ _ _) (by simpa only [off_nil] using a5)
      simpa only [off_nil] using this
    ·have hid := (hl1 _ _ id).1 (by rw [hb]; simp)
     subst hid
     cases hb
     rcases s2.blk kk (.c (.arr mm e' F')) (by simp [look]) with ⟨l, q1, q2, q3⟩ | ⟨q1, q2⟩
     ·exact .inl ⟨_, h32s l q1, blk_cut hmm hFF q2, fun t ht => by cases ht; exact .refl _⟩
     ·obtain ⟨ea, fa, q2⟩ := q2
      cases q2
      obtain rfl : m = 0 := by omega
      exact .inr ⟨by rw [h32, q1]; rfl, _, _, rfl⟩
    ·rw [(hl1 _ _ id).1 g1, (hl1 _ _ id').1 g2]
    ·rw [(hl1 _ _ id).1 g1] at g2
     obtain ⟨l2, y1, y2⟩ := h32r l g2
     rw [← y2]
     exact s2.apart kk l2 (by simp [look]) y1
    ·rw [h3o id fun e => by rw [e, hρ2] at hl; cases hl]; exact hl
    ·by_cases e2 : id = 2
     ·rw [e2] at hl
      obtain ⟨l2, y1, y2⟩ := h32r l hl
      rw [← y2]
      exact s5 kk l2 y1
     ·rw [h3o id e2] at hl
      exact Nat.lt_of_lt_of_le (hrb id l hl).1 s6.size
  generalize hu : u = u0 at r0
  cases r0 with
  | sl0 =>
   subst hu
   refine main 0 (fun _ => []) ρ (Nat.le_refl _) (fun i _ hi => absurd hi (Nat.not_lt_zero i)) (fun i z hz => by cases hz) (fun _ _ => rfl) (fun l hl => ⟨l, hl, rfl⟩) (fun l hl => ⟨l, hl, rfl⟩) .sl0 ?_
   rcases hH.blk 0 _ rfl with ⟨l, q1, q2, q3⟩ | ⟨q1, _⟩
   ·obtain ⟨cs, el, fz, us, rest, b1, b2, b3, b4, b5⟩ := q2
    refine .inl ⟨l, q1, ⟨cs, el, fz, us, rest, b1, b2.imp_right fun q => ⟨q.1, shp_row1 _ _ (show shp (.arr 0 e f) _ from ⟨rfl, rfl, fun i hi => absurd hi (Nat.not_lt_zero i)⟩) q.2⟩, b3, ?_, b5⟩, ?_⟩
    ·cases b4 with
     | arr g hg1 hg2 hg3 => exact .arr g (fun i hi => absurd hi (Nat.not_lt_zero i)) (fun i hi => absurd hi (Nat.not_lt_zero i)) hg3
    ·exact (q3 _ rfl).trans (shp_shape _ _ ⟨rfl, rfl, fun i hi => absurd hi (Nat.not_lt_zero i)⟩)
   ·exact .inr ⟨q1, rfl⟩
  | @sl _ _ _ _ _ _ _ _ k rc hρ a1 a2 a3 a4 a5 =>
   subst hu
   rcases hH.blk 0 _ rfl with ⟨l, q1, q2, q3⟩ | ⟨q1, _⟩
   ·rw [hρ] at q1; cases q1
    obtain ⟨cs, el, fz, us, rest, b1, b2, b3, b4, b5⟩ := q2
    obtain ⟨cs', el', fz', d1, d2⟩ := a5
    rw [b1] at d1; cases d1
    simp only [off_nil, Nat.zero_add] at d2
    obtain ⟨sp, hsp⟩ : ∃ sp : Nat → List Value, sp = fun i => (cs.toList.drop (i * e)).take e := ⟨_, rfl⟩
    have hspl : ∀ i, i < rc → (sp i).length = e := fun i hi => by
     have : (i + 1) * e ≤ rc * e := Nat.mul_le_mul_right _ hi
     rw [Nat.add_mul] at this
     rw [hsp]; simp; omega
    have hspn : ∀ i z, z ∈ sp i → nota z = true := fun i z hz => by
     rw [hsp] at hz
     have h1 := List.mem_of_mem_drop (List.mem_of_mem_take hz)
     rw [b3] at h1
     exact (List.mem_append.1 h1).elim (b4.nota z) (b5 z)
    obtain ⟨T, hT⟩ : ∃ T : AV, T = .arr rc e fun i => if i < n then f i else mk (sp i) := ⟨_, rfl⟩
    have hrep : Rep w A ρ T (flat rc sp) := by
     rw [hT]
     refine .arr sp hspl (fun i hi => ?_) rfl
     by_cases hin : i < n
     ·rw [if_pos hin]
      cases b4 with
      | arr g0 hg1 hg2 hg3 =>
       have : sp i = g0 i := by
        apply List.ext_getElem?
        intro j
        by_cases hj : j < e
        ·have hlt : i * e + j < n * e := by
          have : (i + 1) * e ≤ n * e := Nat.mul_le_mul_right _ hin
          rw [Nat.add_mul] at this; omega
         obtain ⟨y1, y2, y3⟩ := flat_get hg1 hlt
         have hd : (i * e + j) / e = i := by rw [Nat.mul_comm, Nat.mul_add_div (by omega), Nat.div_eq_of_lt hj]; rfl
         have hm : (i * e + j) % e = j := by rw [Nat.mul_comm, Nat.mul_add_mod, Nat.mod_eq_of_lt hj]
         rw [hd, hm] at y1
         rw [← y1, ← hg3, hsp]
         show (List.take e (List.drop (i * e) cs.toList))[j]? = _
         rw [List.getElem?_take_of_lt hj, List.getElem?_drop, b3, List.getElem?_append_left (by rw [hg3, flat_len hg1]; exact hlt)]
        ·rw [List.getElem?_eq_none (by rw [hspl i hi]; omega), List.getElem?_eq_none (by rw [hg1 i hin]; omega)]
       rw [this]; exact hg2 i hin
     ·rw [if_neg hin]
      exact hmk w A (sp i) (hspl i hi) (hspn i)
    obtain ⟨ρ', hρ'⟩ : ∃ ρ' : Ren, ρ' = fun i => if i = 0 then some ⟨k.b, T⟩ else ρ i := ⟨_, rfl⟩
    have h0 : ρ' 0 = some ⟨k.b, T⟩ := by simp [hρ']
    refine main rc sp ρ' (by omega) (fun i _ hi => hspl i hi) hspn (fun i hi => by simp [hρ', hi]) (fun l hl => ⟨_, h0, by rw [hρ] at hl; cases hl; rfl⟩) (fun l' hl' => ⟨k, hρ, by rw [h0] at hl'; cases hl'; rfl⟩) ?_ (.inl ⟨_, h0, ?_, ?_⟩)
    ·have := Rep.sl (w := w) (A := A) (ρ := ρ') (id := 0) (p := []) (o := 0) (n := n) (c := rc) (ex := true) (e := e) (k := ⟨k.b, T⟩) (rc := rc) h0 (by omega) (Nat.le_refl _) (fun _ => rfl) (by rw [hT]; simpa using row_arr _ _ _) ⟨cs, el, fz, b1, by simp only [off_nil, Nat.zero_add]; exact d2⟩
     simpa only [off_nil] using this
    ·rw [← hT]
     refine ⟨cs, el, fz, flat rc sp, cs.toList.drop (rc * e), b1, b2.imp_right fun q => ⟨q.1, ?_⟩, ?_, hrep.noid (by rw [hT]; rfl) ρ', fun z hz => ?_⟩
     ·have h1 := q.2
      rw [hT]
      unfold row1 at h1 ⊢
      split at h1
      ·rename_i he; cases he; rfl
      ·cases h1
     ·rw [hsp, flat_take _ rc (by simpa using d2), List.take_append_drop]
     ·have h1 := List.mem_of_mem_drop hz
      rw [b3] at h1
      exact (List.mem_append.1 h1).elim (b4.nota z) (b5 z)
    ·rw [← hT]; exact .refl _
   ·rw [hρ] at q1; cases q1
end Go.Bu
namespace Go.Bu
variable {tt : Nat → TI}
theorem typed_list {β : Type} {n t s : Nat} {x : AV} (hd : (tt t).d = .slice s) (d0 : β) (A : β → AV) (Q : β → Prop) (each : ∀ y, Typed tt n s y → ∃ p, Q p ∧ sim (fun _ => none) y (A p)) (h : Typed tt (n + 1) t x) :
  ∃ (l : List β) (ex : Bool), l.length ≤ maxLen ∧ (∀ p, p ∈ l → Q p) ∧ simR some x (.dat l.length ex (tt s).size (fun i => A (l.getD i d0))) := by
 simp only [Typed, hd] at h
 obtain ⟨m, ex, f, rfl, h1, h2⟩ := h
 have ch : ∀ i, ∃ p, i < m → Q p ∧ sim (fun _ => none) (f i) (A p) := fun i => by
  by_cases hi : i < m
  ·obtain ⟨p, hp⟩ := each _ (h2 i hi)
   exact ⟨p, fun _ => hp⟩
  ·exact ⟨d0, fun h => absurd h hi⟩
 obtain ⟨q, hq0⟩ : ∃ q : Nat → β, q = fun i => Classical.choose (ch i) := ⟨_, rfl⟩
 have hq : ∀ i, i < m → Q (q i) ∧ sim (fun _ => none) (f i) (A (q i)) := fun i hi => by rw [hq0]; exact Classical.choose_spec (ch i) hi
 have hget : ∀ i, i < m → ((List.range m).map q).getD i d0 = q i := fun i hi => by simp [List.getD_eq_getElem?_getD, hi]
 refine ⟨(List.range m).map q, ex, by simpa using h1, fun p hp => ?_, .inr ⟨by simp, id, .inr rfl, fun i hi => .inr ?_⟩⟩
 ·obtain ⟨i, hi, rfl⟩ := List.mem_map.1 hp
  exact (hq i (List.mem_range.1 hi)).1
 ·dsimp only
  rw [hget i hi]; exact (hq i hi).2
theorem typed_u8s {n t e m : Nat} {x : AV} (hd : (tt t).d = .array m e false) (he : (tt e).d = .int .u8) (hs : (tt e).size = 1) (h : Typed tt (n + 2) t x) : ∃ z : Nat → Nat, (∀ i, i < m → z i < 256) ∧ ∃ f, x = .arr m 1 f ∧ ∀ i, i < m → f i = u8 (z i) := by
 simp only [Typed, hd] at h
 obtain ⟨f, rfl, h2⟩ := h
 rw [hs]
 have ch : ∀ i, ∃ z : Nat, i < m → f i = u8 z ∧ z < 256 := fun i => by
  by_cases hi : i < m
  ·obtain ⟨z, hz⟩ := typed_u8 he (h2 i hi)
   exact ⟨z, fun _ => hz⟩
  ·exact ⟨0, fun h => absurd h hi⟩
 exact ⟨fun i => Classical.choose (ch i), fun i hi => (Classical.choose_spec (ch i) hi).2, f, rfl, fun i hi => (Classical.choose_spec (ch i) hi).1⟩
theorem typed_i64s {n t e m : Nat} {x : AV} (hd : (tt t).d = .array m e false) (he : (tt e).d = .int .i64) (hs : (tt e).size = 1) (h : Typed tt (n + 2) t x) : ∃ z : Nat → Int, (∀ i, i < m → I64 (z i)) ∧ ∃ f, x = .arr m 1 f ∧ ∀ i, i < m → f i = .i (z i) := by
 simp only [Typed, hd] at h
 obtain ⟨f, rfl, h2⟩ := h
 rw [hs]
 have ch : ∀ i, ∃ z : Int, i < m → f i = .i z ∧ I64 z := fun i => by
  by_cases hi : i < m
  ·obtain ⟨z, hz⟩ := typed_i64 he (h2 i hi)
   exact ⟨z, fun _ => hz⟩
  ·exact ⟨0, fun h => absurd h hi⟩
 exact ⟨fun i => Classical.choose (ch i), fun i hi => (Classical.choose_spec (ch i) hi).2, f, rfl, fun i hi => (Classical.choose_spec (ch i) hi).1⟩
end Go.Bu
namespace Go.Bu
open Go.RowKit
section
variable {C : Ctx} {P : Program} {w : World} {H : Type} {enc : TypeId × Value → H} {base : Nat} {sp : Nat → Bool} {held : Bool} {B : Nat}
end
section
variable {C : Ctx} {P : Program} {W : World} {H : Type} {enc : TypeId × Value → H} {base base2 : Nat} {sp : Nat → Bool} {held : Bool} {B : Nat}
end
end Go.Bu

