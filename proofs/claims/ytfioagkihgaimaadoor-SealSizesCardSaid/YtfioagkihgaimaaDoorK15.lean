/- pairs and mix: the exclusive or of bytes and the stream: they range over a function. -/
import Derived.Test.YtfioagkihgaimaaDoorK13
import Derived.Test.YtfioagkihgaimaaDoorK10
import Derived.RangeFuncBox
import Derived.RangeFuncLeaves
import Derived.Shelf.Abstract
import Derived.WalkKit
import Derived.OwnWalkIn
import Derived.TacticsInMore
import Derived.LoopNIn
import Derived.LoopIn
import Derived.Maps.AppendAt
namespace Go.Bu.W
open Go.RowKit Go.Shelf Sp
attribute [local go_sem] Oper.semAt_some

abbrev encP (p : Int × Int) : Array Value := #[.int .u8 p.1, .int .u8 p.2]

set_option maxRecDepth 100000 in
set_option maxHeartbeats 2000000 in
/-- The closure of pairs, at bytes. -/
theorem pairs1_in (F : Fence) (n : Nat) (h43 : F.fn 43) (hro : F.round = none) (hn : 1 ≤ n) (l B1 B2 n₁ B b1 o1 c1 b2 o2 c2 len : Nat) (x y : Nat → Int) (hreach : len ≤ 1099511627776) (hb1 : b1 < n₁) (hb1' : b1 ≠ B) (hb2 : b2 < n₁) (hb2' : b2 ≠ B) (hB2 : B2 < n₁) (hB2' : B2 ≠ B) (J Jx : List (Int × Int) → World → Prop)
    (hY : ∀ pre p W, J pre W → pre.length < len → YieldAt F (n - 1) Proofs.Tryd.prog l (encP p) W fun e W' =>
      (e = .returned (.bool true) ∧ J (pre ++ [p]) W' ∧ KeepB n₁ B W W') ∨ (e = .returned (.bool false) ∧ Jx (pre ++ [p]) W'))
    (W : World) (hc1 : W.cell? ⟨B1, 0, none⟩ = some (.slice (some ⟨b1, o1, none⟩) len c1)) (hc2 : W.cell? ⟨B2, 0, none⟩ = some (.slice (some ⟨b2, o2, none⟩) len c2))
    (hx : ∀ j, j < len → W.cell? ⟨b1, o1 + j, none⟩ = some (.int .u8 (x j))) (hy : ∀ j, j < len → W.cell? ⟨b2, o2 + j, none⟩ = some (.int .u8 (y j))) (h0 : J [] W) :
    CallsIn F n Proofs.Tryd.prog 43 #[.func (.yield l) #[] #[], .pointer (some ⟨B1, 0, none⟩), .pointer (some ⟨B2, 0, none⟩)] W fun e W' => (∃ v, e = .returned v) ∧
      ((∃ ys, ys = upto (fun j => (x j, y j)) len ∧ J ys W') ∨ (∃ pre, True ∧ Jx pre W')) := by
  refine callsIn_of_wp Proofs.Tryd.func43 rfl h43 ?_ hro
  simp only [Proofs.Tryd.ntmps43, List.size_toArray, List.length_cons, List.length_nil, Nat.reduceAdd, Nat.reduceSub, Array.replicate_succ, Array.replicate_zero, List.push_toArray, List.append_toArray, List.nil_append, List.cons_append]
  gi_wp2
  gi_loopw [8] (fun i wr => ∃ k : Nat, k ≤ len ∧ i = .int .i64 k ∧ J (upto (fun j => (x j, y j)) k) wr ∧ KeepB n₁ B W wr)
    (fun i _ => len - (Go.RowKit.intOf i).toNat)
  case atStart => exact ⟨0, Nat.zero_le _, rfl, h0, KeepB.refl _ _ _⟩
  case round =>
    obtain ⟨k, hk, rfl, hJs, hnx⟩ := hrel
    have hcx : k < len → wr.cell? ⟨b1, o1 + k, none⟩ = some (.int .u8 (x k)) := fun h => (hnx.cell (p := ⟨b1, o1 + k, none⟩) hb1 hb1').trans (hx k h)
    have hcy : k < len → wr.cell? ⟨b2, o2 + k, none⟩ = some (.int .u8 (y k)) := fun h => (hnx.cell (p := ⟨b2, o2 + k, none⟩) hb2 hb2').trans (hy k h)
    have hcb : wr.cell? ⟨B2, 0, none⟩ = some (.slice (some ⟨b2, o2, none⟩) len c2) := (hnx.cell (p := ⟨B2, 0, none⟩) hB2 hB2').trans hc2
    by_cases hlt : k < len
    · obtain ⟨fn, tmps, assign, body, hy, hR⟩ := hY _ (x k, y k) wr hJs (by rw [upto_length]; exact hlt)
      dsimp only [encP] at hy
      have hcx' := hcx hlt
      have hcy' := hcy hlt
      gi_wp2
      refine hR.mono ?_
      rintro e W3 (⟨rfl, hJ3, hk3⟩ | ⟨rfl, hJx3⟩)
      · gi_wp2
        go_roundw
        case rel => exact ⟨k + 1, by omega, by simp, by rw [upto_succ]; exact hJ3, hnx.trans hk3⟩
        case measure => simp [Go.RowKit.intOf]; omega
      · gi_wp2
        refine bodyPost_ret (results_none rfl _ _ _) rfl ?_
        exact ⟨⟨_, rfl⟩, .inr ⟨_, trivial, hJx3⟩⟩
    · obtain rfl : k = len := by omega
      gi_wp2
      go_end0
      exact ⟨⟨_, rfl⟩, .inl ⟨_, rfl, hJs⟩⟩

set_option maxRecDepth 100000 in
set_option maxHeartbeats 1000000 in
/-- .. where there are none. -/
theorem pairs1_nil_in (F : Fence) (n : Nat) (h43 : F.fn 43) (hro : F.round = none) (l B1 B2 : Nat) (ad : Option Addr) (c1 : Nat) (J : List (Int × Int) → World → Prop) (W : World) (hc1 : W.cell? ⟨B1, 0, none⟩ = some (.slice ad 0 c1)) (h0 : J [] W) :
    CallsIn F n Proofs.Tryd.prog 43 #[.func (.yield l) #[] #[], .pointer (some ⟨B1, 0, none⟩), .pointer (some ⟨B2, 0, none⟩)] W fun e W' => (∃ v, e = .returned v) ∧ J [] W' := by
  refine callsIn_of_wp Proofs.Tryd.func43 rfl h43 ?_ hro
  simp only [Proofs.Tryd.ntmps43, List.size_toArray, List.length_cons, List.length_nil, Nat.reduceAdd, Nat.reduceSub, Array.replicate_succ, Array.replicate_zero, List.push_toArray, List.append_toArray, List.nil_append, List.cons_append]
  gi_wp2
  gi_loopw [8] (fun i wr => i = .int .i64 0 ∧ J [] wr) (fun _ _ => 0)
  case atStart => exact ⟨rfl, h0⟩
  case round =>
    obtain ⟨rfl, hJs⟩ := hrel
    gi_wp2
    go_end0
    exact ⟨⟨_, rfl⟩, hJs⟩

set_option maxHeartbeats 1000000 in
/-- pairs: both slices are boxed; the function value captures the boxes. -/
theorem pairs_in (F : Fence) (n : Nat) (h37 : F.fn 37) (hro : F.round = none) (a1 a2 : Option Addr) (l1 c1 l2 c2 : Nat) (w : World) :
    CallsIn F n Proofs.Tryd.prog 37 #[.slice a1 l1 c1, .slice a2 l2 c2] w fun e w' => e = .returned (.func (.func 43) #[] #[.pointer (some ⟨w.heap.size, 0, none⟩), .pointer (some ⟨w.heap.size + 1, 0, none⟩)]) ∧ w' = (w.alloc (.cells #[.slice a1 l1 c1] 24)).alloc (.cells #[.slice a2 l2 c2] 24) := by
  refine callsIn_of_wp Proofs.Tryd.func37 rfl h37 ?_ hro
  simp only [Proofs.Tryd.ntmps37, List.size_toArray, List.length_cons, List.length_nil, Nat.reduceAdd, Nat.reduceSub, Array.replicate_succ, Array.replicate_zero, List.push_toArray, List.append_toArray, List.nil_append, List.cons_append]
  gi_wp2
  go_ret
  exact ⟨rfl, rfl⟩

/-- What pairs gives back, ranged over. -/
theorem pairs_stops (F : Fence) (n : Nat) (h43 : F.fn 43) (hro : F.round = none) (hn : 1 ≤ n) (B1 B2 n₁ B len : Nat) (s1 s2 : Value) (x y : Nat → Int) (hreach : len ≤ 1099511627776) (w : World) (hn₁ : n₁ ≤ w.heap.size) (hB1 : B1 < n₁) (hB2 : B2 < n₁) (hB2' : B2 ≠ B)
    (hc1 : w.cell? ⟨B1, 0, none⟩ = some s1) (hc2 : w.cell? ⟨B2, 0, none⟩ = some s2) (h1 : RowAt n₁ B w s1 len (fun i => .int .u8 (x i))) (h2 : RowAt n₁ B w s2 len (fun i => .int .u8 (y i))) :
    SeqStopsK F n Proofs.Tryd.prog 43 #[.pointer (some ⟨B1, 0, none⟩), .pointer (some ⟨B2, 0, none⟩)] encP (KeepB n₁ B) (fun ys => ys = upto (fun j => (x j, y j)) len) (fun _ => True) len w := fun l J Jx W hW _ _ hY h0 => by
  have hk : KeepB n₁ B w W := .of_below (hW.mono hn₁)
  have hc1' := (hW.cell (p := ⟨B1, 0, none⟩) (by show B1 < _; omega)).trans hc1
  have hc2' := (hW.cell (p := ⟨B2, 0, none⟩) (by show B2 < _; omega)).trans hc2
  rcases h1.kept hk with ⟨rfl, ad, c, rfl⟩ | ⟨b1, o1, c1, rfl, hb1, hb1', hx⟩
  · exact (pairs1_nil_in F n h43 hro l B1 B2 ad c J W hc1' h0).mono fun e W' ⟨he, hj⟩ => ⟨he, .inl ⟨_, rfl, hj⟩⟩
  · rcases h2.kept hk with ⟨rfl, ad, c, rfl⟩ | ⟨b2, o2, c2, rfl, hb2, hb2', hy⟩
    · exact (pairs1_nil_in F n h43 hro l B1 B2 _ _ J W hc1' h0).mono fun e W' ⟨he, hj⟩ => ⟨he, .inl ⟨_, rfl, hj⟩⟩
    · exact pairs1_in F n h43 hro hn l B1 B2 n₁ B b1 o1 c1 b2 o2 c2 len x y hreach hb1 hb1' hb2 hb2' hB2 hB2' J Jx hY W hc1' hc2' hx hy h0

end Go.Bu.W

namespace Go.Bu.W
open Go.RowKit Go.Shelf Sp
attribute [local go_sem] Oper.semAt_some

def mixL (key : List Nat) (id : Int) (b : List Nat) : List Nat := (List.range b.length).map fun i => b.getD i 0 ^^^ streamN key id b.length i
theorem mixL_len (key : List Nat) (id : Int) (b : List Nat) : (mixL key id b).length = b.length := by simp [mixL]
theorem mixL_getD (key : List Nat) (id : Int) (b : List Nat) {i : Nat} (h : i < b.length) : (mixL key id b).getD i 0 = b.getD i 0 ^^^ streamN key id b.length i := by simp [mixL, h]
theorem xor8 {a b : Nat} (ha : a < 256) (hb : b < 256) : bXor .u8 (a : Int) (b : Int) = ((a ^^^ b : Nat) : Int) := by
  unfold bXor
  rw [BitVec.toNat_xor, bv8, bv8, Nat.mod_eq_of_lt ha, Nat.mod_eq_of_lt hb, wrap_u8, Nat.mod_eq_of_lt (Nat.xor_lt_two_pow (n := 8) ha hb)]
theorem small_mixL (key : List Nat) (id : Int) {b : List Nat} (h : Small b) : Small (mixL key id b) := fun x hx => by
  obtain ⟨i, _, rfl⟩ := List.mem_map.1 hx
  exact Nat.xor_lt_two_pow (n := 8) (getD_small h i) (streamN_lt _ _ _ _)

theorem wpListIn_loadx {F : Fence} {n : Nat} {P : Program} {ops : Array Oper} {rest : List Oper} {o : Oper} {a : Act} {w : World} {Q : Exit → Act → World → Prop} (hg : o.guard = none) (t : TypeId) (p : Operand) (hop : o.op = Op.load t p) (ad : Addr) (hp : a.eval p = .pointer (some ad)) (v : Value) (hrun : (loadVar t ad).run P w = .ok v w)
    (h : wpListIn F n P ops Q rest (a.put o.dst v) w) : wpListIn F n P ops Q (o :: rest) a w := by
  refine wpListIn_plain hg fun K hK' => ?_
  unfold Oper.wpIn
  refine ⟨?_, ?_⟩
  · simp [Oper.about, hop]
  · rw [Oper.semAt_plain F _ _ (by rw [hop]; intro c hc'; cases hc')]
    simp [execOp, hop, hp, Instr.loadAt, Instr.sureAddr, hrun, Result.andThen]
    exact hK' _ _ h

def xorV (p : Int × Int) : Value := .int .u8 (bits .xor .u8 p.1 p.2)
theorem info5 : (Proofs.Tryd.prog.info? 5).map (fun i => (i.zero, i.size, i.bytes)) = some (some (.int .u8 0), 1, 1) := by kernel_rfl

theorem rv_row_rep {w w' : World} {A A' : Nat → Prop} {ρ ρ' : Ren} {n : Nat} {f : Nat → AV} {us : List Value} (_ : us.length = n) (hf : ∀ i, i < n → ∃ x, f i = .v x) (h : Rep w A ρ (.arr n 1 f) us) : Rep w' A' ρ' (.arr n 1 f) us := by
  obtain ⟨us', e, _, h'⟩ := rv_row_any hf (.inr ⟨rfl, us, rfl, h⟩) w' A' ρ'
  have : us = us' := by simpa using e
  exact this ▸ h'

set_option maxRecDepth 100000 in
set_option maxHeartbeats 600000 in
theorem mix_calls {f : Nat → AV} {id : Int} {b : List Nat} {ex : Bool} (hf : B8 32 f) (hid : I64 id) (hb : Small b) (hn : b.length < 2 ^ 40) (w : World) (A : Nat → Prop) (vs : List Value) (hlen : vs.length = 3)
    (hrv : ∀ i x v, nth? [.arr 32 1 f, .i id, .dat b.length ex 1 (rowL b)] i = some x → nth? vs i = some v → RV w A (fun _ => none) x v) (hA : ∀ b, A b → b < w.heap.size) (hgl : ∀ g x, C.gl g = some x → RV w A (fun _ => none) (.pd x) (.pointer (some ⟨g, 0, none⟩))) :
    Calls Proofs.Tryd.prog 26 vs.toArray w fun e w' => ∃ v t, e = .returned v ∧ Below w.heap.size w w' ∧ w'.ownsRow w.heap.size t 1 v (mixL (bytesL 32 f) id b).length ((List.range (mixL (bytesL 32 f) id b).length).map fun i => .int .u8 ((mixL (bytesL 32 f) id b).getD i 0 : Nat)) := by
  match vs, hlen with
  | [v0, v1, v2], _ =>
  have h0 := hrv 0 _ _ rfl rfl
  have h1 := rv_v (hrv 1 _ _ rfl rfl)
  have h2 : RV w A (fun _ => none) (.dat b.length ex 1 (fun i => .v (.int .u8 (b.getD i 0 : Nat)))) v2 := hrv 2 _ _ rfl rfl
  clear hrv
  have hf' : ∀ i, i < 32 → ∃ x, f i = .v x := fun i hi => ⟨_, (hf i hi).1⟩
  obtain ⟨us, rfl, hus, hrep⟩ := rv_row_any hf' h0 w A (fun _ => none)
  clear h0
  subst h1
  obtain ⟨a2, c2, rfl⟩ : ∃ a c, v2 = .slice a b.length c := by
    rcases rv_dat h2 with ⟨h, a, c, rfl⟩ | ⟨b', o, c, rfl, _⟩
    · exact ⟨a, c, by rw [h]⟩
    · exact ⟨_, _, rfl⟩
  obtain ⟨w2, hw2⟩ : ∃ w2, w2 = (w.alloc (.cells us.toArray 23)).alloc (.cells #[.slice none 0 0] 24) := ⟨_, rfl⟩
  have hload : ∃ v', (loadVar 23 ⟨w.heap.size, 0, none⟩).run Proofs.Tryd.prog w2 = .ok v' w2 ∧ RV w2 A (fun _ => none) (.arr 32 1 f) v' := by
    refine run_loadVar_rep (x := .arr 32 1 f) (us := us) ctx (by kernel_rfl) (fun j hj => ?_) (rv_row_rep hus hf' hrep)
    have : w2.heap[w.heap.size]? = some (.cells us.toArray 23) := by
      rw [hw2]
      exact (Below.heap_alloc _ _ _ (by simp)).trans (World.alloc_heap_new w _)
    simp [World.cell?, this]
  obtain ⟨v', hrun, hv'⟩ := hload
  have hsz2 : w2.heap.size = w.heap.size + 2 := by rw [hw2]; simp
  have hB2 : Below w.heap.size w w2 := by rw [hw2]; exact ((Below.refl _ w).alloc (Nat.le_refl _) _).alloc (by simp) _
  have hK2 : Keeps w A (fun _ => none) w2 A (fun _ => none) := keeps_below hA hB2
  obtain ⟨y, hyd⟩ : ∃ y : Nat → Nat, y = streamN (bytesL 32 f) id b.length := ⟨_, rfl⟩
  have hst : Calls Proofs.Tryd.prog 17 #[v', .int .i64 id, .int .i64 (b.length : Int)] w2 fun e w' => Below w2.heap.size w2 w' ∧ ∃ a c, e = .returned (.slice a b.length c) ∧ RowAt w'.heap.size (w.heap.size + 1) w' (.slice a b.length c) b.length (fun i => .int .u8 (y i : Int)) := by
    have := row_of (n := b.length) (x := fun i => .int .u8 (y i : Int)) Proofs.Tryd.func17 rfl (by kernel_rfl) (hyd ▸ stream_call (f := f) (id := id) (n := b.length) hf hid (by simpa using hn)) w2 [v', .int .i64 id, .int .i64 (b.length : Int)] rfl A (fun b hb => Nat.lt_of_lt_of_le (hA b hb) hB2.size) (fun g x hg => (hgl g x hg).keep hK2) (fun i x v h1 h2 => ?_)
    · refine Calls.mono this fun e w' ⟨hb, h⟩ => ⟨hb, ?_⟩
      rcases h with ⟨h0, a, c, rfl⟩ | ⟨b', o, c, rfl, hb1, hb2, hc⟩
      · exact ⟨a, c, by rw [h0], .inl ⟨h0, a, c, by rw [h0]⟩⟩
      · exact ⟨_, c, rfl, .inr ⟨b', o, c, rfl, hb2, by omega, hc⟩⟩
    · match i with
      | 0 => cases h1; cases h2; exact hv'
      | 1 => cases h1; cases h2; exact .inl ⟨rfl, .v rfl⟩
      | 2 => cases h1; cases h2; exact .inl ⟨rfl, .v rfl⟩
      | _ + 3 => cases h1
  obtain ⟨i0, hi, hz0, hz1, hz2⟩ := info_parts info5
  have h17 : Fence.wide.fn 17 := trivial
  have h37 : Fence.wide.fn 37 := trivial
  have h43 : Fence.wide.fn 43 := trivial
  refine (callsIn_wide (n := 4)).1 ?_
  refine callsIn_of_wp_marks Proofs.Tryd.func26 rfl trivial ?_ rfl
  simp only [Proofs.Tryd.ntmps26, List.size_toArray, List.length_cons, List.length_nil, Nat.reduceAdd, Nat.reduceSub, Array.replicate_succ, Array.replicate_zero, List.push_toArray, List.append_toArray, List.nil_append, List.cons_append]
  gi_wp2_with (first | (refine wpListIn_loadx rfl 23 _ rfl _ rfl v' (hw2 ▸ hrun) ?_) | (gi_at_call 17; rw [← hw2]; refine (callsIn_wide.2 hst).mono ?_; rintro e w3 ⟨hB3, a3, c3, rfl, hr3⟩) | (gi_at_call 37; refine (pairs_in Fence.wide _ h37 rfl _ _ _ _ _ _ _).mono ?_; rintro e w' ⟨rfl, rfl⟩))
  have bO : Boxed w2 (w.heap.size + 1) 24 (.slice none 0 0) := by
    have := Boxed.new (w.alloc (.cells us.toArray 23)) 24 (.slice none 0 0)
    rw [World.size_alloc] at this
    rw [hw2]; exact this
  have hlt3 : w.heap.size + 2 ≤ w3.heap.size := by have := hB3.size; omega
  have bO3 : Boxed w3 (w.heap.size + 1) 24 (.slice none 0 0) := (hB3.block _ (by omega)).trans bO
  have bN1 := Boxed.new w3 24 (.slice a2 b.length c2)
  have bN2 := Boxed.new (w3.alloc (.cells #[.slice a2 b.length c2] 24)) 24 (.slice a3 b.length c3)
  rw [World.size_alloc] at bN2
  obtain ⟨w4, hw4⟩ : ∃ w4, w4 = (w3.alloc (.cells #[.slice a2 b.length c2] 24)).alloc (.cells #[.slice a3 b.length c3] 24) := ⟨_, rfl⟩
  have bO4 : Boxed w4 (w.heap.size + 1) 24 (.slice none 0 0) := by rw [hw4]; exact (bO3.alloc _).alloc _
  have hB34 : Below w3.heap.size w3 w4 := by rw [hw4]; exact ((Below.refl _ w3).alloc (Nat.le_refl _) _).alloc (by simp) _
  have hsz4 : w4.heap.size = w3.heap.size + 2 := by rw [hw4]; simp
  have hB04 : Below w.heap.size w w4 := (hB2.trans (hB3.mono (by omega))).trans (hB34.mono (by omega))
  have hc41 : w4.cell? ⟨w3.heap.size, 0, none⟩ = some (.slice a2 b.length c2) := by rw [hw4]; exact (bN1.alloc _).cell
  have hc42 : w4.cell? ⟨w3.heap.size + 1, 0, none⟩ = some (.slice a3 b.length c3) := by rw [hw4]; exact bN2.cell
  have hr1 : RowAt w4.heap.size (w.heap.size + 1) w4 (.slice a2 b.length c2) b.length (fun i => .int .u8 (b.getD i 0 : Nat)) := by
    rcases rv_dat h2 with h | ⟨b', o, c, h, hAb, _, hc⟩
    · exact .inl h
    · have := hA b' hAb
      exact .inr ⟨b', o, c, h, by omega, by omega, fun i hi => (hB04.cell (p := ⟨b', o + i, none⟩) this).trans (hc i hi)⟩
  have hr2 : RowAt w4.heap.size (w.heap.size + 1) w4 (.slice a3 b.length c3) b.length (fun i => .int .u8 (y i : Int)) :=
    (hr3.kept (.of_below hB34)).imp (fun h => h) fun ⟨b', o, c, h1, h2, h3, h4⟩ => ⟨b', o, c, h1, by omega, h3, h4⟩
  rw [← hw4]
  refine wpIn_rangeFunc_ownG rfl (by omega) (gf := 43) (lb := #[.pointer (some ⟨w3.heap.size, 0, none⟩), .pointer (some ⟨w3.heap.size + 1, 0, none⟩)]) rfl h43 (Go.Proofs.enters_of Proofs.Tryd.func43 (by kernel_rfl) rfl)
    (pairs_stops Fence.wide 3 h43 rfl (by omega) w3.heap.size (w3.heap.size + 1) w4.heap.size (w.heap.size + 1) b.length _ _ (fun i => (b.getD i 0 : Nat)) (fun i => (y i : Nat)) (by omega) w4 (Nat.le_refl _) (by omega) (by omega) (by omega) hc41 hc42 hr1 hr2) KeepB.trans (KeepB.putObj (Nat.le_refl _)) (Below.refl _ _) (fun _ => rfl)
    (fun (pre : List (Int × Int)) W => (∃ v, Boxed W (w.heap.size + 1) 24 v ∧ W.ownsRow w4.heap.size 5 1 v pre.length (pre.map xorV) ∧ True) ∧ Below w.heap.size w W ∧ w4.heap.size ≤ W.heap.size)
    (fun _ _ _ => False)
    (OwnFrom.and (Own.from (holdsRow_own w4.heap.size (w.heap.size + 1) 24 5 1 (fun pre : List (Int × Int) => pre.length) (fun pre => pre.map xorV) (fun pre v => True)) _) ((ownFrom_below (Nat.le_refl _) (by omega)).and fun _ X Y _ hs hg _ => Nat.le_trans hs hg.size))
    (fun _ _ _ _ _ hs _ _ => hs)
    ⟨⟨_, bO4, World.ownsRow_nil _ _ _ _, trivial⟩, hB04, Nat.le_refl _⟩
    (fun x => { tmps := #[.agg us.toArray, .int .i64 id, .slice a2 b.length c2, .pointer (some ⟨w.heap.size, 0, none⟩), undef, undef, .slice none 0 0, .pointer (some ⟨w.heap.size + 1, 0, none⟩), .int .u8 x.1, .int .u8 x.2, .slice a2 b.length c2, v', .int .i64 id, .slice a2 b.length c2, .int .i64 b.length, .slice a3 b.length c3, .func (.func 43) #[] #[.pointer (some ⟨w3.heap.size, 0, none⟩), .pointer (some ⟨w3.heap.size + 1, 0, none⟩)], .int .u8 x.1, .int .u8 x.2, undef, undef, undef, undef, undef, undef, undef], defers := [] }) ?assign ?body ?done ?stop
  case assign =>
    intro l x W K hK
    gi_wp2
    exact hK
  case body =>
    rintro l pre x W ⟨⟨v, hv, hrow, _⟩, hB, hge⟩ hlt
    have hc := hv.cell
    gi_wp2_with (gi_at_builtin; (refine wpListIn_append_own _ rfl _ _ 24 rfl w4.heap.size 5 i0 (.int .u8 0) 1 1 Proofs.Tryd.underlying24 hi hz0 hz1 hz2 rfl (by decide) _ _ _ rfl (hrow.alloc _) ⟨W.heap.size, 0, none⟩ 1 1 [xorV x] rfl rfl (cell_one_new _ _ _) (by simp [xorV, Value.oneCell']) (by have : maxLen = 9223372036854775807 := rfl; omega) (by omega) (by simp; omega) ?_; intro v' w1 hown' hgrow _; obtain ⟨g', cap', rfl⟩ := ownsRow_succ hown'; obtain ⟨hv1, hv2, hr2, hk2, hb2, hk3⟩ := boxed_appended (n₀ := w.heap.size) hv (by decide) hrow (by omega) hge (by omega) hown' hgrow; have hc1 := hv1.cell; have hf1 := hv1.frozen))
    exact ⟨hk2.from _, hk3, ⟨_, hv2, by simpa using hr2, trivial⟩, hB.trans hb2, Nat.le_trans hge hk3.size⟩
  case done =>
    rintro D ys W hD rfl ⟨⟨v, hv, hrow, _⟩, hB, hge⟩ hK
    have hc := hv.cell
    gi_wp2
    refine ⟨by simp, .inl ⟨_, _, rfl, run_takeDeferred hK, ?_⟩⟩
    refine ⟨_, results_tmp rfl _ _ _, v, 5, rfl, hB.trans (belowK_b (w := w) (Nat.le_refl _) W D _ _ (by omega) hK rfl rfl), ?_⟩
    have hl : (mixL (bytesL 32 f) id b).length = b.length := mixL_len _ _ _
    have e1 : (upto (fun i => (((b.getD i 0 : Nat) : Int), (y i : Int))) b.length).map xorV = (List.range b.length).map fun i => Value.int .u8 ((mixL (bytesL 32 f) id b).getD i 0 : Nat) := by
      unfold upto
      rw [List.map_map]
      refine List.map_congr_left fun i hi => ?_
      have hi := List.mem_range.1 hi
      show Value.int .u8 (bXor .u8 _ _) = _
      rw [mixL_getD _ _ _ hi, hyd, xor8 (getD_small hb i) (streamN_lt _ _ _ _)]
    rw [hl, ← e1]
    have := ownsRow_le (ownsRow_putObj hrow (.deferred none) hK rfl) (Nat.le_trans (Nat.le_add_right _ 2) (by omega : w.heap.size + 2 ≤ w4.heap.size))
    rwa [upto_length] at this
  case stop =>
    rintro D c pre W _ _ h _
    exact h.elim

theorem smix_fun {f : Nat → AV} {id : Int} {b : List Nat} {ex : Bool} (hf : B8 32 f) (hid : I64 id) (hb : Small b) (hn : b.length < 2 ^ 40) :
    Fun C P F_smix [.arr 32 1 f, .i id, .dat b.length ex 1 (rowL b)] [] (ownB (mixL (bytesL 32 f) id b)).1 (ownB (mixL (bytesL 32 f) id b)).2 :=
  fun_row Proofs.Tryd.func26 rfl (by kernel_rfl) (x := fun i => .int .u8 ((mixL (bytesL 32 f) id b).getD i 0 : Nat)) (fun _ => rfl) fun w A vs hlen hrv hA hgl =>
    mix_calls hf hid hb hn w A vs hlen hrv hA hgl

#print axioms smix_fun
end Go.Bu.W

