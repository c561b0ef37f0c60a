/- Loops over functions. -/
import Derived.Test.YtoaefniopgmoaaaDoorK10
import Derived.RangeFuncIn
import Derived.RangeFuncRecord
namespace Go.Bu
theorem doesY_of {P : Program} {l : Nat} {q : Loop} {vs : Array Value} {w : World} {R : Value → World → Prop} (hl : w.heap[l]? = some (.loop q)) (hs : vs.size = q.params.size)
  (h : q.assign.wpIn (FR (some l)) 0 P (Exit.then (fun a₁ w₁ => ∃ w₂, (Instr.beginRound l).run P w₁ = .ok () w₂ ∧ q.body.wpIn (FR (some l)) 0 P (roundPost P l fun | .returned v, w' => R v w' | _, _ => False) a₁ w₂) (fun _ _ _ => False))
   { tmps := (q.params.zip vs).foldl (fun t (p, v) => t.setIfInBounds p v) q.tmps, defers := [] } w) : DoesY P l vs w R :=
 ⟨_, _, _, _, run_yield hl hs, roundIn_of_wpIn trivial h⟩
theorem Evo.round {w w3 : World} {A O A' O' : Nat → Prop} {l : Nat} {o o1 o3 : Obj} (e : Evo (w.putObj l o1) A O w3 A' O') (hl : w.heap[l]? = some o) (ho : ∀ c t fz, o ≠ .cells c t fz) (h3 : o3 = o) : Evo w A O (w3.putObj l o3) A' O' := by
 have hlt : l < w.heap.size := (Array.getElem?_eq_some_iff.1 hl).1
 have hsz : w.heap.size ≤ w3.heap.size := by have := e.size; rwa [World.putObj_size] at this
 refine ⟨by rw [World.putObj_size]; exact hsz, e.os, e.tape, e.output, fun b hb hO => ?_, fun b c t fz hb => ?_, e.stay, fun b hb => ?_, fun b hb => ?_⟩
 ·by_cases hbl : b = l
  ·subst hbl; rw [World.putObj_heap_same (by omega), h3, hl]
  ·rw [World.putObj_heap_other hbl, e.keep b (by rw [World.putObj_size]; exact hb) hO, World.putObj_heap_other hbl]
 ·have hbl : b ≠ l := fun h => by subst h; rw [hl] at hb; cases hb; exact ho _ _ _ rfl
  obtain ⟨c', fz', g1, g2⟩ := e.cells b c t fz (by rw [World.putObj_heap_other hbl]; exact hb)
  exact ⟨c', fz', by rw [World.putObj_heap_other hbl]; exact g1, g2⟩
 ·have := e.Anew b hb; rwa [World.putObj_size] at this
 ·have := e.Onew b hb; rwa [World.putObj_size] at this
theorem MarksOK.put {D : Dom} {ρ : Ren} {A : Nat → Prop} {w : World} {l : List Deferred} (h : MarksOK D ρ A w l) {i : Nat} {q : Loop} (o : Obj) (hi : w.heap[i]? = some (.loop q)) (kp : Keeps w A ρ (w.putObj i o) A ρ) (hrc : D.rc = none) : MarksOK D ρ A (w.putObj i o) l := by
 refine ⟨fun d hd => ?_, h.diff, D.stab h.ex kp, fun j r hr => (by rw [hrc] at hr; cases hr), by rw [World.putObj_size]; exact h.bs⟩
 obtain ⟨r, h1, h2, h3, h4⟩ := h.each d hd
 exact ⟨r, h1, h2, h3, (World.putObj_heap_other fun e => by subst e; rw [hi] at h4; cases h4).trans h4⟩
theorem Rel.keep_obj {C : Ctx} {N : Nat} {D : Dom} {S : St} {ρ : Ren} {A A' : Nat → Prop} {a : Act} {w w' : World} (h : Rel C N D S ρ A a w) {O' : Nat → Prop} (e : Evo w A (own ρ S.hp) w' A' O') {i : Nat} {o : Obj} (hi : w.heap[i]? = some o) (ho : ∀ c t fz, o ≠ .cells c t fz) (hA : ¬ A i) : w'.heap[i]? = some o ∧ ¬ A' i := by
 have hlt : i < w.heap.size := (Array.getElem?_eq_some_iff.1 hi).1
 have hno : ¬ own ρ S.hp i := fun h1 => by
  obtain ⟨c, t, fz, g⟩ := h.hp.own_cells h1
  rw [hi] at g; cases g; exact ho _ _ _ rfl
 refine ⟨by rw [e.keep i hlt hno]; exact hi, fun ha => ?_⟩
 rcases e.Anew i ha with g | g | g
 ·exact hA g
 ·exact hno g
 ·omega
theorem round_walk {C : Ctx} {P : Program} (K : CtxOK C P) (hm : P.follows .mixedOrders = true) {W : Way} {D : Dom} {k l : Nat} (hD : D.round = some l) (hrc : D.rc = none) (hfix : FixOK D k) {x y : Code} (hx : codeOK x = true) (hy : codeOK y = true) {p1 p2 : List Nat}
  {S : St} {ρ : Ren} {A : Nat → Prop} {a : Act} {w : World} (h : Rel C W.nt D S ρ A a w) {q : Loop} (hl : w.heap[l]? = some (.loop q)) (hA : ¬ A l) (hq : q.state = .ready) (hp : q.pending = none) {Φ : St → Prop}
  (hv : Holds C P W.nt D k (fun e S' => e = .normal ∧ Φ S') (vc C W x p1 S (fun e S' => match e with | .normal => vc C W y p2 S' lf | _ => .fail 0)))
  {R : Value → World → Prop} (hR : ∀ S' ρ' A' a' w', Φ S' → Rel C W.nt D S' ρ' A' a' w' → Evo w A (own ρ S.hp) w' A' (own ρ' S'.hp) → (∀ id l, id < k → ρ id = some l → ρ' id = some l) → R (.bool true) w') :
  x.wpIn (FR (some l)) 0 P (Exit.then (fun a₁ w₁ => ∃ w₂, (Instr.beginRound l).run P w₁ = .ok () w₂ ∧ y.wpIn (FR (some l)) 0 P (roundPost P l fun | .returned v, w' => R v w' | _, _ => False) a₁ w₂) (fun _ _ _ => False)) a w := by
 rw [← hD]
 refine vc_wp (D := D) K hm hfix x _ S _ ρ A a w _ hx h hv fun e S1 ρ1 A1 a1 w1 he h1 e1 g1 => ?_
 cases e with
 | exit j => exact he.elim
 | ret => exact he.elim
 | normal =>
  have nc : ∀ {q : Loop} c t fz, Obj.loop q ≠ .cells c t fz := fun _ _ _ e => by cases e
  obtain ⟨hl1, hA1⟩ := h.keep_obj e1 hl nc hA
  refine ⟨_, run_beginRound hl1 hq, ?_⟩
  obtain ⟨o2, ho2⟩ : ∃ o2 : Loop, o2 = { q with state := .busy } := ⟨_, rfl⟩
  have h2 := h1.shut (.loop o2) hl1 nc hA1 a1.defers (h1.df.put _ hl1 (h1.keeps_put _ hl1 nc hA1) hrc)
  have hl2 : (w1.putObj l (.loop o2)).heap[l]? = some (.loop o2) := World.putObj_heap_same (Array.getElem?_eq_some_iff.1 hl1).1
  rw [← ho2]
  refine vc_wp (D := D) K hm hfix y _ S1 _ ρ1 A1 a1 _ _ hy h2 he fun e S3 ρ3 A3 a3 w3 he3 h3 e3 g3 => ?_
  obtain ⟨rfl, hΦ⟩ := he3
  obtain ⟨hl3, hA3⟩ := h2.keep_obj e3 hl2 nc hA1
  refine ⟨_, _, run_endRound none hl3, ?_⟩
  have ho4 : Obj.loop { o2 with state := if (none : Option Code).isNone then LoopState.ready else .done, pending := none } = .loop q := by
   rw [ho2]; cases q; simp at hq hp ⊢; exact ⟨hq.symm, hp.symm⟩
  rw [ho4]
  have h4 := h3.shut (.loop q) hl3 nc hA3 a3.defers (h3.df.put _ hl3 (h3.keeps_put _ hl3 nc hA3) hrc)
  exact hR S3 ρ3 A3 _ _ hΦ h4 (e1.trans (e3.round hl1 nc rfl)) fun id l hid hl => g3 id l hid (g1 id l hid hl)
theorem yfun_of {C : Ctx} {P : Program} (K : CtxOK C P) (hm : P.follows .mixedOrders = true) {W : Way} {D : Dom} {k l : Nat} {L : List Nat} {args : List AV} {H H' : List (Nat × Blk)} {q : Loop} (hrc : D.rc = some (l, q)) (hq : q.state = .ready) (hp : q.pending = none)
  (hx : codeOK q.assign = true) (hy : codeOK q.body = true) {p1 p2 : List Nat} (hps : q.params.size = args.length) (hnt : q.tmps.size = W.nt) (hk : ∀ id, look H id ≠ none → look H' id ≠ none → id < k) {tm : List (Nat × AV)}
  (htm : ∀ (vs : List Value) (ρ ρ0 : Ren) (A : Nat → Prop) (w : World), D.ext ρ0 A w → (∀ j id x, look H j ≠ none → nth? L j = some id → ρ0 id = some x → ρ j = some x) → vs.length = args.length → (∀ i x v, nth? args i = some x → nth? vs i = some v → RV w A ρ x v) →
   ∀ t x, look tm t = some x → ∃ u, ((q.params.zip vs.toArray).foldl (fun t (p, v) => t.setIfInBounds p v) q.tmps)[t]? = some u ∧ RT w A ρ x u)
  (hsz : ∀ vs : Array Value, ((q.params.zip vs).foldl (fun t (p, v) => t.setIfInBounds p v) q.tmps).size = q.tmps.size)
  (hv : ∀ n, Holds C P W.nt { base := n, round := some l } k (fun e S' => e = .normal ∧ ∃ S2, (∀ {D : Dom}, Ent C W.nt D k S' S2) ∧ ∀ id b, look H' id = some b → look S2.hp id = some b)
   (vc C W q.assign p1 { tm := tm, hp := H, seen := keysOf H } (fun e S' => match e with | .normal => vc C W q.body p2 S' lf | _ => .fail 0))) : YFun C P D L l args H (.v (.bool true)) H' := by
 intro ρ A w vs hlen hrv hH hAb hrb hgl ⟨ρ0, hex, hpos⟩ hr
 obtain ⟨hA, hl⟩ := hr l q hrc
 refine doesY_of hl (by simp [hlen, hps]) ?_
 have h : Rel C W.nt { base := w.heap.size, round := some l } { tm := tm, hp := H, seen := keysOf H } ρ A { tmps := (q.params.zip vs.toArray).foldl (fun t (p, v) => t.setIfInBounds p v) q.tmps, defers := [] } w :=
  ⟨fun t x ht => htm vs ρ ρ0 A w hex hpos hlen hrv t x ht, by rw [← hnt]; exact hsz _, .nil trivial rfl (Nat.le_refl _), hH, hAb, fun id l hl => ⟨(hrb id l hl).1, memb_keysOf.2 (hrb id l hl).2⟩, fun id hid => memb_keysOf.2 hid, hgl⟩
 refine round_walk K hm rfl rfl (fun _ _ _ _ _ _ => trivial) hx hy h hl hA hq hp (hv _) fun S' ρ' A' a' w' hΦ h' e' g' => ?_
 obtain ⟨S2, hent, hsub⟩ := hΦ
 obtain ⟨ρ2, A2, q1, q2, q3⟩ := @hent { base := w.heap.size, round := some l } (fun _ _ _ _ _ _ => trivial) ρ' A' a' w' h'
 refine ⟨ρ2, A2, .of_leaf rfl (.v rfl), q1.hp.sub hsub, fun id l hl' hl => ?_, q1.Ab, fun id l hl => (q1.rb id l hl).1, ?_⟩
 ·have hid := hk id (hrb id l hl).2 hl'
  exact q3 id l hid (g' id l hid hl)
 ·have := e'.trans q2
  exact ⟨this.size, this.os, this.tape, this.output, this.keep, this.cells, this.stay, this.Anew, fun b hb => this.Onew b (own_sub hsub hb)⟩
end Go.Bu
namespace Go.Bu
def tmIn (m : Nat → Option Nat) : List (Nat × AV) → List (Nat × AV)
 | [] => []
 | (t, x) :: r => match ren m 40 x with | some y => (t, y) :: tmIn m r | none => tmIn m r
theorem look_tmIn {m : Nat → Option Nat} : ∀ {tm : List (Nat × AV)} {t : Nat} {y : AV}, distinct (keysOf tm) = true → look (tmIn m tm) t = some y → ∃ x, look tm t = some x ∧ ren m 40 x = some y
 | [], t, y, _, h => by simp [tmIn, look] at h
 | (s, x) :: r, t, y, hd, h => by
  obtain ⟨h1, h2⟩ := distinct_cons hd
  have hn : ∀ z, look (tmIn m r) s = some z → False := fun z hz => by
   obtain ⟨x', g, _⟩ := look_tmIn h2 hz
   have := (memb_keysOf (l := r) (i := s)).2 (by rw [g]; simp)
   rw [h1] at this; cases this
  simp only [tmIn] at h
  by_cases e : s = t
  ·subst e
   split at h
   ·rename_i z hz
    simp only [look, Nat.beq_refl] at h ⊢
    cases h; exact ⟨x, rfl, hz⟩
   ·exact (hn _ h).elim
  ·split at h
   ·rename_i z hz
    simp only [look, beq_false e] at h ⊢
    exact look_tmIn h2 h
   ·simp only [look, beq_false e]
    exact look_tmIn h2 h
def under (k : Nat) (id : Nat) : Option Nat := match Nat.ble (id + 1) k with | true => some id | false => none
def posIn (H : List (Nat × Blk)) (L : List Nat) (id : Nat) : Option Nat := match idxOf L id 0 with | some j => (match look H j with | some _ => some j | none => none) | none => none
def extOf (tm : List (Nat × AV)) (tmps : Array Value) (ρ : Ren) (A : Nat → Prop) (w : World) : Prop := ∀ t x, look tm t = some x → ∃ u, tmps[t]? = some u ∧ RT w A ρ x u
theorem extOf_stab {tm : List (Nat × AV)} {tmps : Array Value} : ∀ {ρ A w ρ' A' w'}, extOf tm tmps ρ A w → Keeps w A ρ w' A' ρ' → extOf tm tmps ρ' A' w' := fun h kp t x ht => by
 obtain ⟨u, h1, h2⟩ := h t x ht; exact ⟨u, h1, h2.keep kp⟩
theorem extOf_fix {tm : List (Nat × AV)} {tmps : Array Value} {k : Nat} (hd : distinct (keysOf tm) = true) (hf : tmIn (under k) tm = tm) (ρ ρ' : Ren) (A : Nat → Prop) (w : World) (h : extOf tm tmps ρ A w) (hr : ∀ id l, id < k → ρ id = some l → ρ' id = some l) : extOf tm tmps ρ' A w := fun t x ht => by
 obtain ⟨u, h1, h2⟩ := h t x ht
 rw [← hf] at ht
 obtain ⟨x', g1, g2⟩ := look_tmIn hd ht
 rw [hf, g1] at ht; cases ht
 refine ⟨u, h1, h2.ren g2 fun i j l hi hl => ?_⟩
 unfold under at hi
 split at hi
 ·rename_i hb; cases hi
  exact hr i l (by have := Nat.le_of_ble_eq_true hb; omega) hl
 ·cases hi
def RecOf (N : Nat) (ps : Array Tmp) (x y : Code) (q : Loop) : Prop := q.state = .ready ∧ q.pending = none ∧ q.params = ps ∧ q.assign = x ∧ q.body = y ∧ q.tmps.size = N
abbrev ryld (l : Nat) : AV := .v (.func (.yield l) #[] #[])
abbrev domR (n : Nat) (tm : List (Nat × AV)) (l : Nat) (q : Loop) : Dom := { base := n, ext := extOf tm q.tmps, stab := extOf_stab, rc := some (l, q) }
theorem evo_alloc (w : World) (A O : Nat → Prop) (o : Obj) : Evo w A O (w.alloc o) A O := by
 have hk : ∀ b, b < w.heap.size → (w.alloc o).heap[b]? = w.heap[b]? := fun b hb => by
  show (w.heap.push o)[b]? = w.heap[b]?
  rw [Array.getElem?_push, if_neg (by omega)]
 refine ⟨by rw [World.size_alloc]; omega, rfl, rfl, rfl, fun b hb _ => hk b hb, fun b c e fz h => ⟨c, fz, (hk b (Array.getElem?_eq_some_iff.1 h).1).trans h, rfl⟩, fun _ h => h, fun _ h => .inl h, fun _ h => .inl h⟩
theorem alloc_other {w : World} {o : Obj} {b : Nat} (hb : b < w.heap.size) : (w.alloc o).heap[b]? = w.heap[b]? := by
 show (w.heap.push o)[b]? = w.heap[b]?
 rw [Array.getElem?_push, if_neg (by omega)]
theorem Rel.alloc {C : Ctx} {N : Nat} {D : Dom} {S : St} {ρ : Ren} {A : Nat → Prop} {a : Act} {w : World} (h : Rel C N D S ρ A a w) (o : Obj) : Rel C N D S ρ A a (w.alloc o) := by
 have e := evo_alloc w A (own ρ S.hp) o
 have kp := h.keeps e fun _ _ h => h
 have hs : (w.alloc o).heap.size = w.heap.size + 1 := World.size_alloc ..
 refine ⟨fun t x hx => ?_, h.nt, h.df.evo kp e fun b hb => h.hp.own_cells hb, ⟨fun id b hb => ?_, h.hp.inj, h.hp.apart⟩, fun b hb => by have := h.Ab b hb; omega, fun id l hl => ⟨by have := (h.rb id l hl).1; omega, (h.rb id l hl).2⟩, h.sn, fun g x hg => (h.gl g x hg).keep kp⟩
 ·obtain ⟨v, hv, hr⟩ := h.tm t x hx; exact ⟨v, hv, hr.keep kp⟩
 ·rcases h.hp.blk id b hb with ⟨l, h1, h2, h3⟩ | h1
  ·refine .inl ⟨l, h1, ?_, h3⟩
   cases b with
   | m => exact h2.elim
   | c t => obtain ⟨cs, el, fz, vs, rest, e1, e2, e3, e4, e5⟩ := h2; exact ⟨cs, el, fz, vs, rest, (alloc_other (h.rb id l h1).1).trans e1, e2, e3, e4.keep kp, e5⟩
  ·exact .inr h1
theorem rng_ok {C : Ctx} {P : Program} {N : Nat} {D : Dom} (hD : D.round = none) (hrc : D.rc = none) {k : Nat} {g : Operand} {ps : Array Tmp} {x y : Code} {S : St} {Φ : Ex → St → Prop} {f : FuncId} {caps : List AV} (hg : S.val C g = some (.fn (.func f) caps))
  {fnf : Func} {cf : Code} (hf : P.funcs[f]? = some fnf) (hfb : fnf.body = some cf) (hfn : (fnf.name == "runtime.NumGoroutine") = false)
  {L : List Nat} {args' : List AV} {H H' : List (Nat × Blk)} {r : AV} {e : Eff} {tmL : List (Nat × AV)} {kk : Nat} (hnt : noTups caps = true)
  (hle : ren.rens (liveIn (keepOnly S.hp L) L) 40 caps = some args') (hH : renHp (liveIn (keepOnly S.hp L) L) (keepOnly S.hp L) = some H) (hal : allLive S.hp L = true) (hdL : distinct L = true)
  (htd : distinct (keysOf S.tm) = true) (htm : tmL = tmIn (liveIn (keepOnly S.hp L) L) S.tm)
  (hF : ∀ l q, RecOf N ps x y q → FunE C P (extOf tmL q.tmps) (some (l, q)) kk f (ryld l :: args') H r H') (hkk : ∀ id, look H id ≠ none → look H' id ≠ none → id < kk) (hb : backEff S L 0 r H' = some e) (hΦ : Φ .normal (S.apply none e)) : RngOK C P N D k (.rangeFunc g ps x y) S Φ := by
 intro hfx ρ A a w h
 rw [hD]
 refine wpIn_rangeFunc fun fn _ => ?_
 obtain ⟨q, hq⟩ : ∃ q : Loop, q = { state := .ready, pending := none, fn, tmps := a.tmps, params := ps, assign := x, body := y, defers := w.heap.size } := ⟨_, rfl⟩
 have hrec : RecOf N ps x y q := by rw [hq]; exact ⟨rfl, rfl, rfl, rfl, rfl, h.nt⟩
 obtain ⟨w1, hw1⟩ : ∃ w1, w1 = (w.alloc (.deferred (some []))).alloc (.loop q) := ⟨_, rfl⟩
 have hs0 : (w.alloc (.deferred (some []))).heap.size = w.heap.size + 1 := World.size_alloc ..
 have hs1 : w1.heap.size = w.heap.size + 2 := by rw [hw1, World.size_alloc, hs0]
 have hl1 : w1.heap[w.heap.size + 1]? = some (.loop q) := by rw [hw1, ← hs0]; exact World.alloc_heap_new ..
 have hd1 : w1.heap[w.heap.size]? = some (.deferred (some [])) := by rw [hw1, alloc_other (by omega)]; exact World.alloc_heap_new ..
 have hrel1 : Rel C N D S ρ A a w1 := by rw [hw1]; exact (h.alloc _).alloc _
 have hev1 : Evo w A (own ρ S.hp) w1 A (own ρ S.hp) := by rw [hw1]; exact (evo_alloc ..).trans (evo_alloc ..)
 have hAn : ∀ b, w.heap.size ≤ b → ¬ A b := fun b hb ha => by have := h.Ab b ha; omega
 obtain ⟨a1, ha1⟩ : ∃ a1 : Act, a1 = { a with defers := [{ target := .collected w.heap.size, args := #[] }] ++ a.defers } := ⟨_, rfl⟩
 have hrel2 : Rel C N D S ρ A a1 w1 := by
  rw [ha1]
  refine ⟨hrel1.tm, hrel1.nt, ⟨fun d hd => ?_, ?_, hrel1.df.ex, hrel1.df.rc, hrel1.df.bs⟩, hrel1.hp, hrel1.Ab, hrel1.rb, hrel1.sn, hrel1.gl⟩
  ·rcases List.mem_append.1 hd with hd | hd
   ·obtain rfl := List.mem_singleton.1 hd
    exact ⟨_, rfl, h.df.bs, hAn _ (Nat.le_refl _), hd1⟩
   ·exact hrel1.df.each d hd
  ·refine List.pairwise_append.2 ⟨List.pairwise_singleton .., hrel1.df.diff, fun d hd d' hd' e1 => ?_⟩
   obtain rfl := List.mem_singleton.1 hd
   obtain ⟨r', g1, _, _, g4⟩ := h.df.each d' hd'
   dsimp only at e1
   rw [g1] at e1; cases e1
   have := (Array.getElem?_eq_some_iff.1 g4).1
   omega
 have hfv := (h.val hg).leaf rfl
 generalize hu : a.eval g = u at hfv
 cases hfv with
 | fn us hul hlf hr =>
  have hcall : (callFunc f ((.func (.yield (w.heap.size + 1)) #[] #[] :: us).toArray)).run P w1 = .ok (.enter f (.func (.yield (w.heap.size + 1)) #[] #[] :: us).toArray) w1 := by
   have hn' : fnf.name ≠ "runtime.NumGoroutine" := by simpa using hfn
   simp [callFunc, hf, hn', hfb]
  have hvs : ∀ i x v, nth? caps i = some x → nth? us i = some v → RV w1 A ρ x v := fun i x v hi hv => .inl ⟨hlf _ x hi, (hr _ x v hi hv).keep (h.keeps hev1 fun _ _ h => h)⟩
  obtain ⟨ρc, c1, c2, c3, c4, c5, cOf, c6⟩ := ref_core hrel1 (look_keepOnly _ _) hle hH hal hdL hb hul hvs
  have hdo := hF (w.heap.size + 1) q hrec ρc A w1 (.func (.yield (w.heap.size + 1)) #[] #[] :: us) (by simpa using c1) (fun i x v hi hv => ?_) c3 (fun b hb => hrel1.Ab b hb) c4 c5 (fun t z hz => ?_) (fun i q' hiq => ?_)
  ·refine ⟨w.heap.size + 1, [{ target := .collected w.heap.size, args := #[] }], w1, { target := .fn (.func f) us.toArray, args := #[.func (.yield (w.heap.size + 1)) #[] #[]] }, w1, f, (.func (.yield (w.heap.size + 1)) #[] #[] :: us).toArray, w1, ?_, ?_, fun _ _ => trivial, ?_, FR_depth, ?_⟩
   ·rw [hw1, hq]; exact run_enterLoop_outer fn a.tmps ps x y
   ·simp [resolve, Deferred.ofValue, hu, show ∀ v, a.eval (.const v) = v from fun _ => rfl]
   ·rw [← hcall]; simp [invoke]
   ·unfold Does at hdo
    rw [hcall] at hdo
    dsimp only at hdo
    refine callsIn_FR (Calls.mono hdo fun en w3 he => ?_)
    cases en with
    | panicked ch => exact he.elim
    | outgrown => exact he.elim
    | returned v =>
     obtain ⟨nx, v', ρ', A', w3', q1, _, q3, q4, q5⟩ := (c6 v w3 (he.imp fun ρ' ⟨A', r1, r2, r3, r4⟩ => ⟨A', r1, r2, fun id l hl' hl => r3 id l (hkk id (c4 id l hl).2 hl') hl, r4⟩)).rel hrel2 none (fun d hd => by cases hd)
     cases q1
     have hno : ¬ own ρ S.hp (w.heap.size + 1) := fun ho => by
      obtain ⟨id, l, _, g2, g3⟩ := ho
      have := (h.rb id l g2).1; omega
     have hl3 : w3.heap[w.heap.size + 1]? = some (.loop q) := (q4.keep _ (by omega) hno).trans hl1
     have hA3 : ¬ A' (w.heap.size + 1) := fun ha => by
      rcases q4.Anew _ ha with g | g | g
      ·exact hAn _ (by omega) g
      ·exact hno g
      ·omega
     refine ⟨none, w3.putObj (w.heap.size + 1) (.loop { q with state := .exhausted }), by rw [run_endLoop hl3 (by rw [hrec.1]; intro h; cases h), hrec.2.1], ?_⟩
     have q6 : Rel C N D (S.apply none e) ρ' A' a1 (w3.putObj (w.heap.size + 1) (.loop { q with state := .exhausted })) := by
      have := q3.shut (.loop { q with state := .exhausted }) hl3 (fun _ _ _ e => by cases e) hA3 a1.defers (MarksOK.put (q := q) (by simpa [Act.put] using q3.df) _ hl3 (q3.keeps_put _ hl3 (fun _ _ _ e => by cases e) hA3) hrc)
      simpa [Act.put] using this
     show Post C N D k w A (own ρ S.hp) ρ Φ .normal { a with defers := [{ target := .collected w.heap.size, args := #[] }] ++ a.defers } _
     rw [← ha1]
     exact ⟨.normal, _, ρ', A', rfl, hΦ, q6, (hev1.trans q4).shut _ (by omega), fun id l _ hl => q5 id l hl⟩
  ·cases i with
   | zero => cases hi; cases hv; exact .inl ⟨rfl, .v rfl⟩
   | succ i => exact c2 i x v hi hv
  ·rw [htm] at hz
   obtain ⟨z0, g1, g2⟩ := look_tmIn htd hz
   obtain ⟨v, g3, g4⟩ := hrel1.tm t z0 g1
   refine ⟨v, by rw [hq]; exact g3, g4.ren g2 fun id j l hid hl => ?_⟩
   have hm : ∀ i j k, liveIn (keepOnly S.hp L) L i = some k → liveIn (keepOnly S.hp L) L j = some k → look (keepOnly S.hp L) i ≠ none → look (keepOnly S.hp L) j ≠ none → i = j := fun i j k h1 h2 _ _ => by
    unfold liveIn at h1 h2
    split at h1
    ·split at h2
     ·have := (idxOf_nth h1).2; rw [(idxOf_nth h2).2] at this; cases this; rfl
     ·cases h2
    ·cases h1
   have hid' := hid
   unfold liveIn at hid'
   split at hid'
   ·rename_i b hbl
    obtain ⟨_, f2⟩ := renHp_look hH hm
    obtain ⟨b', g5, _⟩ := f2 id b j hbl hid
    exact cOf j id l (by rw [g5]; simp) (idxOf_nth hid').2 hl
   ·cases hid'
  ·cases hiq
   exact ⟨hAn _ (by omega), hl1⟩
theorem rng_at {C : Ctx} {P : Program} {N : Nat} {D : Dom} (hD : D.round = none) (hrc : D.rc = none) {k : Nat} {g : Operand} {ps : Array Tmp} {x y c : Code} {S S2 : St} {Φ : Ex → St → Prop} (hc : c = .rangeFunc g ps x y) {f : FuncId} {caps : List AV} (hg : S.val C g = some (.fn (.func f) caps))
  {fnf : Func} {cf : Code} (hf : P.funcs[f]? = some fnf) (hfb : fnf.body = some cf) (hfn : (fnf.name == "runtime.NumGoroutine") = false)
  (L : List Nat) {args' : List AV} {H H' : List (Nat × Blk)} {r : AV} {e : Eff} {tmL : List (Nat × AV)} {kk : Nat} (hnt : noTups caps = true)
  (hle : ren.rens (liveIn (keepOnly S.hp L) L) 40 caps = some args') (hH : renHp (liveIn (keepOnly S.hp L) L) (keepOnly S.hp L) = some H) (hal : allLive S.hp L = true) (hdL : distinct L = true)
  (htd : distinct (keysOf S.tm) = true) (htm : tmL = tmIn (liveIn (keepOnly S.hp L) L) S.tm)
  (hF : ∀ l q, RecOf N ps x y q → FunE C P (extOf tmL q.tmps) (some (l, q)) kk f (ryld l :: args') H r H') (hkk : ∀ id, look H id ≠ none → look H' id ≠ none → id < kk) (hb : backEff S L 0 r H' = some e) (hE : Ent C N D k (S.apply none e) S2) (hΦ : Φ .normal S2) : RngOK C P N D k c S Φ := by
 subst hc
 intro hfx ρ A a w h
 refine wpIn_mono (rng_ok hD hrc (Φ := fun ex S' => ex = .normal ∧ S' = S.apply none e) hg hf hfb hfn hnt hle hH hal hdL htd htm hF hkk hb ⟨rfl, rfl⟩ hfx ρ A a w h) fun ex a' w' hp => ?_
 obtain ⟨e1, S', ρ', A', rfl, ⟨rfl, rfl⟩, h2, h3, h4⟩ := hp
 obtain ⟨ρ2, A2, q1, q2, q3⟩ := hE hfx ρ' A' a' w' h2
 exact ⟨.normal, S2, ρ2, A2, rfl, hΦ, q1, h3.trans q2, fun id l hid hl => q3 id l hid (h4 id l hid hl)⟩
theorem RngOK.ent {C : Ctx} {P : Program} {N : Nat} {D : Dom} {k : Nat} {c : Code} {S S1 : St} {Φ : Ex → St → Prop} (he : Ent C N D k S S1) (h : RngOK C P N D k c S1 Φ) : RngOK C P N D k c S Φ := fun hfx ρ A a w hR => by
 obtain ⟨ρ1, A1, q1, q2, q3⟩ := he hfx ρ A a w hR
 refine wpIn_mono (h hfx ρ1 A1 a w q1) fun ex a' w' hp => ?_
 obtain ⟨e, S', ρ', A', rfl, g1, g2, g3, g4⟩ := hp
 exact ⟨e, S', ρ', A', rfl, g1, g2, q2.trans g3, fun id l hid hl => g4 id l hid (q3 id l hid hl)⟩
def nx (q : St → VC) : Ex → St → VC
 | .normal, S => q S
 | _, _ => .fail 0
def asgAt (c : Code) (p : List Nat) : Code := match sub? c p with | some (.rangeFunc _ _ x _) => x | _ => .skip
def rbodyAt (c : Code) (p : List Nat) : Code := match sub? c p with | some (.rangeFunc _ _ _ y) => y | _ => .skip
def parTm : List Nat → List AV → List (Nat × AV) → List (Nat × AV)
 | p :: r, x :: q, tm => parTm r q (put tm p x)
 | _, _, tm => tm
theorem parTm_ok {w : World} {A : Nat → Prop} {ρ : Ren} : ∀ {ps : List Nat} {args : List AV} {vs : List Value} {tm : List (Nat × AV)} {tmps : Array Value}, vs.length = args.length → (∀ p, p ∈ ps → p < tmps.size) → (∀ i x v, nth? args i = some x → nth? vs i = some v → RV w A ρ x v) →
  (∀ t x, look tm t = some x → ∃ u, tmps[t]? = some u ∧ RT w A ρ x u) → ∀ t x, look (parTm ps args tm) t = some x → ∃ u, ((ps.zip vs).foldl (fun t (p, v) => t.setIfInBounds p v) tmps)[t]? = some u ∧ RT w A ρ x u
 | [], _, _, tm, tmps, hl, hp, hv, h, t, x, ht => by
  simp only [parTm] at ht
  simpa using h t x ht
 | p :: r, [], vs, tm, tmps, hl, hp, hv, h, t, x, ht => by
  obtain rfl : vs = [] := by simpa using hl
  simp only [parTm] at ht
  simpa using h t x ht
 | p :: r, y :: q, [], tm, tmps, hl, hp, hv, h, t, x, ht => by simp at hl
 | p :: r, y :: q, v :: vs, tm, tmps, hl, hp, hv, h, t, x, ht => by
  simp only [parTm] at ht
  simp only [List.zip_cons_cons, List.foldl_cons]
  refine parTm_ok (args := q) (vs := vs) (tm := put tm p y) (by simpa using hl) (fun p' hp' => by simpa using hp p' (List.mem_cons_of_mem _ hp')) (fun i x v hx hv' => hv (i + 1) x v hx hv') (fun s z hz => ?_) t x ht
  rw [look_put] at hz
  split at hz
  ·rename_i e; subst e; cases hz
   exact ⟨v, by simp [hp p List.mem_cons_self], (hv 0 _ v rfl rfl).rt⟩
  ·rename_i e
   obtain ⟨u, h1, h2⟩ := h s z hz
   exact ⟨u, by rw [Array.getElem?_setIfInBounds_ne e]; exact h1, h2⟩
theorem setAll_size : ∀ (l : List (Nat × Value)) (tmps : Array Value), (l.foldl (fun t (p, v) => t.setIfInBounds p v) tmps).size = tmps.size
 | [], _ => rfl
 | (p, v) :: r, tmps => by simp only [List.foldl_cons]; rw [setAll_size r]; simp
theorem body_ok {C : Ctx} {P : Program} (K : CtxOK C P) (hm : P.follows .mixedOrders = true) {W : Way} {n0 : Nat} {tmL : List (Nat × AV)} {l : Nat} {q : Loop} {ps : Array Tmp} {x y : Code} (hq : RecOf W.nt ps x y q) {k : Nat} {L : List Nat} {args : List AV} {H H' : List (Nat × Blk)}
  (hx : codeOK x = true) (hy : codeOK y = true) (hps : ps.size = args.length) (hpb : ∀ p, p ∈ ps.toList → p < W.nt) (hk : ∀ id, look H id ≠ none → look H' id ≠ none → id < k) (htd : distinct (keysOf tmL) = true) {p1 p2 : List Nat}
  (hv : ∀ n, Holds C P W.nt { base := n, round := some l } k (fun e S' => e = .normal ∧ ∃ S2, (∀ {D : Dom}, Ent C W.nt D k S' S2) ∧ ∀ id b, look H' id = some b → look S2.hp id = some b)
   (vc C W x p1 { tm := parTm ps.toList args (tmIn (posIn H L) tmL), hp := H, seen := keysOf H } (nx fun S' => vc C W y p2 S' lf))) : YFun C P (domR n0 tmL l q) L l args H (.v (.bool true)) H' := by
 obtain ⟨q1, q2, q3, q4, q5, q6⟩ := hq
 have hfold : ∀ vs : Array Value, (q.params.zip vs).foldl (fun t (p, v) => t.setIfInBounds p v) q.tmps = (ps.toList.zip vs.toList).foldl (fun t (p, v) => t.setIfInBounds p v) q.tmps := fun vs => by
  rw [q3, ← Array.foldl_toList, Array.toList_zip]
 refine yfun_of K hm (k := k) (tm := parTm ps.toList args (tmIn (posIn H L) tmL)) rfl q1 q2 (by rw [q4]; exact hx) (by rw [q5]; exact hy) (by rw [q3]; exact hps) q6 hk (fun vs ρ ρ0 A w hex hpos hlen hrv t z hz => ?_) (fun vs => by rw [hfold]; exact setAll_size _ _) (p1 := p1) (p2 := p2) (by
  rw [q4, q5]
  have e : (nx fun S' => vc C W y p2 S' lf) = (fun e S' => match e with | .normal => vc C W y p2 S' lf | _ => .fail 0) := by funext e S'; cases e <;> rfl
  intro n
  have := hv n
  rw [e] at this; exact this)
 rw [hfold]
 refine parTm_ok hlen (fun p hp => by rw [q6]; exact hpb p hp) hrv (fun s z hz => ?_) t z hz
 obtain ⟨z0, g1, g2⟩ := look_tmIn htd hz
 obtain ⟨u, g3, g4⟩ := hex s z0 g1
 refine ⟨u, g3, g4.ren g2 fun id j l hid hl => ?_⟩
 unfold posIn at hid
 split at hid
 ·rename_i j' hj'
  split at hid
  ·rename_i b hb; cases hid
   exact hpos j id l (by rw [hb]; simp) (idxOf_nth hj').2 hl
  ·cases hid
 ·cases hid
theorem iter_of {C : Ctx} {P : Program} {W : Way} (K : CtxOK C P) (hm : P.follows .mixedOrders = true) {g : FuncId} {fn : Func} {c : Code} (hf : P.funcs[g]? = some fn) (hb : fn.body = some c) (hn : (fn.name == "runtime.NumGoroutine") = false) (hok : codeOK c = true)
  (hnt : fn.ntmps = W.nt) {args : List AV} {H : List (Nat × Blk)} {r : AV} {H' : List (Nat × Blk)} (hl : args.length ≤ W.nt) (hno : noTups args = true) (k : Nat)
  {tm : List (Nat × AV)} {l : Nat} {q : Loop} (htd : distinct (keysOf tm) = true) (hfx : tmIn (under k) tm = tm)
  (hv : ∀ n, Holds C P W.nt (domR n tm l q) k (FunPost C W.nt k fn.results.toList r H') (vc C W c [] (start args H) fun e S => .leaf e S)) : FunE C P (extOf tm q.tmps) (some (l, q)) k g args H r H' :=
 fun_ofE K hm hf hb hn hok hnt hl hno k extOf_stab (some (l, q)) (extOf_fix htd hfx) hv
theorem fun_ofR {C : Ctx} {P : Program} {W : Way} (K : CtxOK C P) (hm : P.follows .mixedOrders = true) {g : FuncId} {fn : Func} {c : Code} (hf : P.funcs[g]? = some fn) (hb : fn.body = some c) (hn : (fn.name == "runtime.NumGoroutine") = false) (hok : codeOK c = true)
  (hnt : fn.ntmps = W.nt) {args : List AV} {H : List (Nat × Blk)} {r : AV} {H' : List (Nat × Blk)} (hl : args.length ≤ W.nt) (hno : noTups args = true) (k : Nat) (hk : ∀ id, look H id ≠ none → id < k)
  (hv : ∀ n, Holds C P W.nt { base := n } k (FunPost C W.nt k fn.results.toList r H') (vc C W c [] (start args H) fun e S => .leaf e S)) : Fun C P g args H r H' :=
 fun ρ A w vs hlen hrv hH hAb hrb hgl => (fun_ofE K hm hf hb hn hok hnt hl hno k (ext := fun _ _ _ => True) (fun _ _ => trivial) none (fun _ _ _ _ _ _ => trivial) hv ρ A w vs hlen hrv hH hAb hrb hgl trivial (fun i q h => by cases h)).mono
  fun v w' ⟨ρ', A', r1, r2, r3, r4⟩ => ⟨ρ', A', r1, r2, fun id l hl => r3 id l (hk id (hrb id l hl).2) hl, r4⟩
end Go.Bu

