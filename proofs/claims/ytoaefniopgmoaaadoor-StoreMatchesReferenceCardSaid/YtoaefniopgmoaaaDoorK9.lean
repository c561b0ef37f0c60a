/- A law's statement, from its contract: arguments read as data. -/
import Derived.Test.YtoaefniopgmoaaaDoorK8
import Derived.Carry
import Derived.ProofKit
import Derived.Lib.LaidTab
import Derived.Deep.DeepHandedRow
namespace Go.Bu
open Go.RowKit
section
variable {C : Ctx} {P : Program} {W : World} {H : Type} {enc : TypeId × Value → H} {base base2 : Nat} {sp : Nat → Bool} {held : Bool}
theorem cells_one {v : Value} (h : ∀ cs, v ≠ .agg cs) : v.cells = #[v] := by
 cases v <;> first | rfl | exact absurd rfl (h _)
theorem arg_rv (K : CtxOK C P) (n : Nat) {t : Nat} {v : Value} {d : DataW H} {ps : List MemPlace} (hk : (C.tt t).d.known = true) (hd : dataT C.tt n t = true) (hok : Value.okWide P W .any base2 t v) (h : DataW.Trod enc P W base sp held t v d ps) :
  ∃ x, RV W (fun b => b < W.heap.size) (fun _ => none) x v ∧ Typed C.tt n t x := by
 obtain ⟨fuel, hf⟩ := h
 obtain ⟨x, h1, h2, _⟩ := trod_rep K n fuel t _ _ hk hd hf
 refine ⟨x, ?_, h2⟩
 have htd := K.td t
 have one : leaf x = true → (∀ cs, v ≠ .agg cs) → RV W (fun b => b < W.heap.size) (fun _ => none) x v := fun hl hn => by
  rw [cells_one hn] at h1
  exact .inl ⟨hl, h1⟩
 cases n with
 | zero => simp [dataT] at hd
 | succ n =>
  unfold dataT at hd
  split at hd
  ·rename_i k hdd
   rw [hdd] at htd; simp only [tdOK] at htd
   simp only [Typed, hdd] at h2
   obtain ⟨z, rfl, _⟩ := h2
   refine one rfl fun cs e => ?_
   subst e
   simp [Value.okWide, htd, Cell.okWide, Cell.ok] at hok
  ·rename_i hdd
   rw [hdd] at htd; simp only [tdOK] at htd
   simp only [Typed, hdd] at h2
   obtain ⟨z, rfl⟩ := h2
   refine one rfl fun cs e => ?_
   subst e
   simp [Value.okWide, htd, Cell.okWide, Cell.ok] at hok
  ·rename_i hdd
   rw [hdd] at htd; simp only [tdOK] at htd
   simp only [Typed, hdd] at h2
   obtain ⟨z, rfl, _⟩ := h2
   refine one rfl fun cs e => ?_
   subst e
   simp [Value.okWide, htd, Cell.okWide, Cell.ok] at hok
  ·rename_i e' hdd
   rw [hdd] at htd; simp only [tdOK] at htd
   simp only [Typed, hdd] at h2
   obtain ⟨_, _, _, rfl, _⟩ := h2
   refine one rfl fun cs e => ?_
   subst e
   simp [Value.okWide, htd, Cell.okWide, Cell.ok] at hok
  ·rename_i m e' hdd
   rw [hdd] at htd; simp only [tdOK] at htd
   simp only [Typed, hdd] at h2
   obtain ⟨_, rfl, _⟩ := h2
   simp only [Value.okWide, htd] at hok
   obtain ⟨cs, rfl, _⟩ := hok
   exact .inr ⟨rfl, cs.toList, by simp, h1⟩
  ·rename_i fs hdd
   rw [hdd] at htd; simp only [tdOK] at htd
   obtain ⟨fields, hu, _⟩ := htd
   simp only [Typed, hdd] at h2
   obtain ⟨_, rfl, _⟩ := h2
   simp only [Value.okWide, hu] at hok
   obtain ⟨cs, rfl, _⟩ := hok
   exact .inr ⟨rfl, cs.toList, by simp, h1⟩
  ·cases hd
theorem law_calls {g : FuncId} {fn : Func} {c : Code} {args : List AV} {vs : List Value} (hf : P.funcs[g]? = some fn) (hb : fn.body = some c) (hn : (fn.name == "runtime.NumGoroutine") = false)
  (h : Fun C P g args [] (.sb true) []) (hl : vs.length = args.length) (hv : ∀ i x v, nth? args i = some x → nth? vs i = some v → RV W (fun b => b < W.heap.size) (fun _ => none) x v)
  (hgl : ∀ g x, C.gl g = some x → RV W (fun b => b < W.heap.size) (fun _ => none) (.pd x) (.pointer (some ⟨g, 0, none⟩))) :
  Calls P g vs.toArray W fun e W' => e = .returned (.bool true) ∧ Below W.heap.size W W' := by
 have hd := h (fun _ => none) (fun b => b < W.heap.size) W vs hl hv ⟨fun id k hk => (by cases hk), fun id id' l l' h1 => absurd rfl h1, fun id l h1 => absurd rfl h1⟩ (fun _ h => h) (fun id l hl => by cases hl) hgl
 have hcall : (callFunc g vs.toArray).run P W = .ok (.enter g vs.toArray) W := by
  have hn' : fn.name ≠ "runtime.NumGoroutine" := by simpa using hn
  simp [callFunc, hf, hn', hb]
 unfold Does at hd
 rw [hcall] at hd
 dsimp only at hd
 refine Calls.mono hd fun e w' he => ?_
 cases e with
 | returned v =>
  obtain ⟨ρ', A', h1, _, _, _, _, h6⟩ := he
  have hvv := rt_bool h1
  refine ⟨by rw [hvv], ⟨h6.os, h6.tape, h6.output, h6.size, fun k hk => h6.keep k hk ?_⟩⟩
  rintro ⟨id, l, hne, _⟩
  exact hne rfl
 | _ => exact he.elim
theorem rvs_nil {A : Nat → Prop} {ρ : Ren} : ∀ i x v, nth? ([] : List AV) i = some x → nth? ([] : List Value) i = some v → RV W A ρ x v := fun i x v h => by cases i <;> cases h
theorem rvs_cons {A : Nat → Prop} {ρ : Ren} {x : AV} {v : Value} {xs : List AV} {vs : List Value} (h : RV W A ρ x v) (hr : ∀ i x v, nth? xs i = some x → nth? vs i = some v → RV W A ρ x v) :
  ∀ i y u, nth? (x :: xs) i = some y → nth? (v :: vs) i = some u → RV W A ρ y u := fun i y u hy hu => by
 cases i with
 | zero => cases hy; cases hu; exact h
 | succ i => exact hr i y u hy hu
theorem gl_table {name : String} {k : IntKind} {zs : List Int} {g n : Nat} {f : Nat → AV} (h : Lib.TabIs P W name k zs) (hg : P.globalNamed name = some g) (hn : n = zs.length) (h0 : 0 < n) (hf : ∀ i, i < n → f i = .v (.int k (zs.getD i 0))) :
  RV W (fun b => b < W.heap.size) (fun _ => none) (.pd (.arr n 1 f)) (.pointer (some ⟨g, 0, none⟩)) := by
 have hc : ∀ i, i < n → W.cell? ⟨g, i, none⟩ = some (.int k (zs.getD i 0)) := fun i hi => h.cell hg i (by omega)
 refine .inl ⟨rfl, .pd ((List.range n).map fun i => Value.int k (zs.getD i 0)) ?_ (fun j hj => ?_) ?_⟩
 ·exact World.block_lt_of_cell? _ _ (hc 0 h0)
 ·simp only [List.length_map, List.length_range] at hj
  rw [Nat.zero_add, hc j hj]
  simp [hj]
 ·refine .arr (fun i => [.int k (zs.getD i 0)]) (fun _ _ => rfl) (fun i hi => ?_) ?_
  ·rw [hf i hi]; exact .v rfl
  ·exact (flat_one fun i _ => rfl).symm
end
section
variable {tt : Nat → TI}
theorem typed_int {n t : Nat} {k : IntKind} {x : AV} (hd : (tt t).d = .int k) (h : Typed tt (n + 1) t x) : ∃ z, x = .v (.int k z) ∧ k.min ≤ z ∧ z ≤ k.max := by
 simpa only [Typed, hd] using h
theorem typed_u8 {n t : Nat} {x : AV} (hd : (tt t).d = .int .u8) (h : Typed tt (n + 1) t x) : ∃ z : Nat, x = u8 z ∧ z < 256 := by
 obtain ⟨z, rfl, h1, h2⟩ := typed_int hd h
 have h1' : (0 : Int) ≤ z := h1
 have h2' : z ≤ 255 := h2
 exact ⟨z.toNat, by show _ = AV.v (.int .u8 ((z.toNat : Nat) : Int)); rw [show ((z.toNat : Nat) : Int) = z by omega], by omega⟩
theorem typed_i64 {n t : Nat} {x : AV} (hd : (tt t).d = .int .i64) (h : Typed tt (n + 1) t x) : ∃ z : Int, x = .i z ∧ I64 z := by
 obtain ⟨z, rfl, h1, h2⟩ := typed_int hd h
 exact ⟨z, rfl, h1, h2⟩
theorem typed_rowB {n e m : Nat} {f : Nat → AV} (he : (tt e).d = .int .u8) (h : ∀ i, i < m → Typed tt (n + 1) e (f i)) : B8 m f := fun i hi => by
 obtain ⟨z, h1, h2⟩ := typed_u8 he (h i hi)
 rw [show dN f i = z by simp [dN, h1, asN_nat], h1]
 exact ⟨rfl, h2⟩
end
end Go.Bu
namespace Go.Bu
theorem bne_then {α : Type} [BEq α] [LawfulBEq α] {x y : α} {p q : Prop} (h : x = y) (hq : q) : ((x != y) = true → p) ∧ ((x != y) = false → q) := by
 subst h
 exact ⟨fun h => by simp at h, fun _ => hq⟩
end Go.Bu

