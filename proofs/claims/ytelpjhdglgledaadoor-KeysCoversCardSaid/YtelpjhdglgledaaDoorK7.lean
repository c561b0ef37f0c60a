/- Contracts from the kit's own, for functions that leave the old memory as it was. -/
import Derived.Test.YtelpjhdglgledaaDoorK6
import Derived.Below
namespace Go.Bu
open Go.RowKit

theorem flat_one {n : Nat} {g : Nat → List Value} {x : Nat → Value} (h : ∀ i, i < n → g i = [x i]) : flat n g = (List.range n).map x := by
  induction n with
  | zero => rfl
  | succ n ih => rw [flat, ih fun i hi => h i (by omega), h n (by omega), List.range_succ, List.map_append]; rfl

theorem rep_v_eq {w : World} {A : Nat → Prop} {ρ : Ren} {x : Value} {vs : List Value} (h : Rep w A ρ (.v x) vs) : vs = [x] := by cases h; rfl

/-- What an array of numbers is. -/
theorem rv_arr {w : World} {A : Nat → Prop} {ρ : Ren} {n : Nat} {k : IntKind} {g : Nat → Nat} {v : Value} (h : RV w A ρ (.arr n 1 (fun i => .v (.int k (g i : Int)))) v) : v = .agg ((List.range n).map fun i => Value.int k (g i : Int)).toArray := by
  rcases h with ⟨hl, _⟩ | ⟨_, vs, rfl, hr⟩
  · cases hl
  · cases hr with
    | arr q hq hr e =>
      rw [e, flat_one fun i hi => rep_v_eq (hr i hi)]
theorem rv_v {w : World} {A : Nat → Prop} {ρ : Ren} {x v : Value} (h : RV w A ρ (.v x) v) : v = x := by
  rcases h with ⟨_, hr⟩ | ⟨hl, _⟩
  · have := rep_v_eq hr; simpa using this
  · cases hl

/-- A function that gives back a value of one cell and leaves the old memory. -/
theorem fun_calls {C : Ctx} {P : Program} {g : FuncId} {fn : Func} {c : Code} {args : List AV} {r : Value} (hf : P.funcs[g]? = some fn) (hb : fn.body = some c) (hn : (fn.name == "runtime.NumGoroutine") = false) (hr : nota r = true)
    (h : ∀ (w : World) (A : Nat → Prop) (ρ : Ren) (vs : List Value), vs.length = args.length → (∀ i x v, nth? args i = some x → nth? vs i = some v → RV w A ρ x v) → Calls P g vs.toArray w fun e w' => e = .returned r ∧ Below w.heap.size w w') : Fun C P g args [] (.v r) [] := by
  intro ρ A w vs hlen hrv hH hAb hrb hgl
  have hcall : (callFunc g vs.toArray).run P w = .ok (.enter g vs.toArray) w := by
    have hn' : fn.name ≠ "runtime.NumGoroutine" := by simpa using hn
    simp [callFunc, hf, hn', hb]
  unfold Does
  rw [hcall]
  dsimp only
  refine Calls.mono (h w A ρ vs hlen hrv) fun e w' he => ?_
  obtain ⟨rfl, hB⟩ := he
  refine ⟨ρ, A, .of_leaf rfl (.v hr), ⟨fun id k hk => (by cases hk), fun id id' l l' h1 => absurd rfl h1, fun id l h1 => absurd rfl h1⟩, fun _ _ h => h, fun b hb => Nat.lt_of_lt_of_le (hAb b hb) hB.size, fun id l hl => Nat.lt_of_lt_of_le (hrb id l hl).1 hB.size, ?_⟩
  refine ⟨hB.size, hB.os, hB.tape, hB.output, fun b hb _ => hB.block b hb, fun b c e fz hc => ?_, fun _ h => h, fun _ h => .inl h, fun _ h => .inl h⟩
  have hlt : b < w.heap.size := by
    rcases Nat.lt_or_ge b w.heap.size with h' | h'
    · exact h'
    · rw [Array.getElem?_eq_none h'] at hc; cases hc
  exact ⟨c, fz, by rw [hB.block b hlt]; exact hc, rfl⟩

end Go.Bu

