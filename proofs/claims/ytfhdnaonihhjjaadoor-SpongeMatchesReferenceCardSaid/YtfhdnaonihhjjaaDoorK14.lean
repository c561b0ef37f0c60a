/- The digits of a hash. -/
import Derived.Test.YtfhdnaonihhjjaaDoorK12
import Derived.Test.YtfhdnaonihhjjaaDoorK13
import Derived.WalkKit
import Derived.BigCall
import Derived.Test.YtfhdnaonihhjjaaDoorK10
namespace Go.Proofs
open Go.Shelf Go.RowKit

def hexD : List Nat := [48, 49, 50, 51, 52, 53, 54, 55, 56, 57, 97, 98, 99, 100, 101, 102]
def hexN (d : Nat) : Nat := hexD.getD d 0
def hexL (l : List Nat) : List UInt8 := l.flatMap fun n => [(hexN (n / 16)).toUInt8, (hexN (n % 16)).toUInt8]
def cellsL (l : List Nat) : Array Value := (l.map fun n : Nat => Value.int .u8 (n : Int)).toArray

theorem hexL_take (l : List Nat) (k : Nat) (hk : k < l.length) : hexL (l.take (k + 1)) = hexL (l.take k) ++ [(hexN (l.getD k 0 / 16)).toUInt8] ++ [(hexN (l.getD k 0 % 16)).toUInt8] := by
  unfold hexL
  rw [List.take_add_one, List.getElem?_eq_getElem hk, List.flatMap_append]
  simp [List.getD_eq_getElem?_getD, List.getElem?_eq_getElem hk]

theorem hex_digit (d : Nat) (hd : d < 16) : (⟨#[48, 49, 50, 51, 52, 53, 54, 55, 56, 57, 97, 98, 99, 100, 101, 102]⟩ : ByteArray)[d]'(by show d < 16; exact hd) = (hexN d).toUInt8 := by
  have : ∀ d : Fin 16, (⟨#[48, 49, 50, 51, 52, 53, 54, 55, 56, 57, 97, 98, 99, 100, 101, 102]⟩ : ByteArray)[d.1]'(by show d.1 < 16; exact d.2) = (hexN d.1).toUInt8 := by decide
  exact this ⟨d, hd⟩
theorem hexL_len (l : List Nat) : (hexL l).length = 2 * l.length := by
  induction l with
  | nil => rfl
  | cons x r ih => simp [hexL] at ih ⊢; omega

theorem hex_index (d : Nat) (hd : d < 16) (w : World) : (Instr.index 9 (.string { data := #[48, 49, 50, 51, 52, 53, 54, 55, 56, 57, 97, 98, 99, 100, 101, 102] }) (.int .u8 (d : Int))).run Tryd.prog w = .ok (.int .u8 ((hexN d).toUInt8.toNat : Int)) w := by
  have : ∀ d : Fin 16, (⟨#[48, 49, 50, 51, 52, 53, 54, 55, 56, 57, 97, 98, 99, 100, 101, 102]⟩ : ByteArray)[d.1]? = some (hexN d.1).toUInt8 := by decide
  simp [Instr.index, asIntOf, run_underlying Tryd.underlying9, this ⟨d, hd⟩]

theorem ops_step {P : Program} {ops : Array Oper} {Q : Exit → Act → World → Prop} {i : Nat} {rest : List Nat} {a a2 : Act} {w w' : World} {o : Oper} {v : Value} (ho : ops[i]? = some o) (hg : o.guard = none)
    (hr : (execOp a.eval o).run P w = .ok (.value v) w') (ha : a.put o.dst v = a2) (hn : wpOps P ops Q rest a2 w') : wpOps P ops Q (i :: rest) a w := by
  simp only [wpOps, ho]
  rw [if_pos (by simp [Region.wanted, hg])]
  left
  unfold Oper.wp
  rw [hr]
  subst ha
  exact hn

section
variable {P : Program} {ev : Operand → Value} {o : Oper} {w : World}
theorem exec_box {t : TypeId} {x : Operand} {cs : Array Value} (ho : o.op = .box t x) (hx : ev x = .agg cs) : (execOp ev o).run P w = .ok (.value (.pointer (some ⟨w.heap.size, 0, none⟩))) (w.alloc (.cells cs t)) := by
  unfold execOp
  simp only [ho, hx]
  simp [Instr.box, newVar, newRow]
  rfl
theorem exec_move {x : Operand} {v : Value} (ho : o.op = .move x ∨ o.op = .assign x) (hx : ev x = v) : (execOp ev o).run P w = .ok (.value v) w := by
  unfold execOp
  rcases ho with ho | ho <;> simp only [ho, hx] <;> simp
theorem exec_alloc {t : TypeId} {cs : Array Value} (ho : o.op = .alloc t) (hz : (zeroValue t).run P w = .ok (.agg cs) w) : (execOp ev o).run P w = .ok (.value (.pointer (some ⟨w.heap.size, 0, none⟩))) (w.alloc (.cells cs t)) := by
  unfold execOp
  simp only [ho]
  simp [Instr.alloc, newVar, newRow, hz]
  rfl
theorem exec_load {t : TypeId} {x : Operand} {a : Addr} {v : Value} (ho : o.op = .load t x) (hx : ev x = .pointer (some a)) (hl : (loadVar t a).run P w = .ok v w) : (execOp ev o).run P w = .ok (.value v) w := by
  unfold execOp
  simp only [ho, hx]
  simp [Instr.loadAt, Instr.sureAddr, hl]
end

theorem zero66 (w : World) : (zeroValue 66).run Tryd.prog w = .ok (.agg #[.pointer none, .slice none 0 0]) w := by
  have h : (Tryd.prog.info? 66).bind (·.zero) = some (.agg #[.pointer none, .slice none 0 0]) := by kernel_rfl
  cases hq : Tryd.prog.info? 66 with
  | none => rw [hq] at h; cases h
  | some i =>
    rw [hq] at h
    have hz : i.zero = some (.agg #[.pointer none, .slice none 0 0]) := h
    simp [zeroValue, typeInfo, hq, hz]

theorem idx27 (cs : Array Value) (l : List Nat) (hc : cs = cellsL l) (hl : l.length = 32) (k : Nat) (hk : k < 32) (x : Nat) (hx : x = l.getD k 0) (w : World) :
    (Instr.index 27 (.agg cs) (.int .i64 (k : Int))).run Tryd.prog w = .ok (.int .u8 (x : Int)) w := by
  have h1 : cs[k]? = some (.int .u8 (x : Int)) := by
    rw [hc, hx]
    simp [cellsL, List.getD_eq_getElem?_getD, List.getElem?_eq_getElem (show k < l.length by omega)]
  have hz : (sizeOf 5).run Tryd.prog w = .ok 1 w := Tryd.sizeOf5 w
  have hp : (part 5 cs k).run Tryd.prog w = .ok (.int .u8 (x : Int)) w := by
    simp [part, Tryd.isAgg5, h1]
  simp [Instr.index, asIntOf, run_underlying Tryd.underlying27, hz, hk, hp]

set_option maxHeartbeats 4000000 in
set_option maxRecDepth 100000 in
theorem Tryd.printWalk (l : List Nat) (hl : l.length = 32) (hs : ∀ x ∈ l, x < 256) (w : World) :
    Calls Tryd.prog 13 #[.agg (cellsL l)] w fun e w' => e = .returned (.string ⟨(hexL l).toArray⟩) ∧ Below w.heap.size w w' := by
  have hcs : (cellsL l).size = 32 := by simp [cellsL, hl]
  obtain ⟨cs, hcs'⟩ : ∃ cs, cs = cellsL l := ⟨_, rfl⟩
  rw [← hcs'] at hcs ⊢
  go_enter Tryd.func13, Tryd.ntmps13
  refine wp_seq (wp_region ?_)
  refine ops_step (i := 0) rfl rfl (exec_box rfl rfl) rfl ?_
  refine ops_step (i := 1) rfl rfl (exec_move (.inr rfl) rfl) rfl ?_
  refine wp_seq (wp_region ?_)
  refine ops_step (i := 0) rfl rfl (exec_alloc rfl (zero66 _)) rfl ?_
  have hld : (loadVar 27 ⟨w.heap.size, 0, none⟩).run Tryd.prog ((w.alloc (.cells cs 27)).alloc (.cells #[.pointer none, .slice none 0 0] 66)) = .ok (.agg cs) ((w.alloc (.cells cs 27)).alloc (.cells #[.pointer none, .slice none 0 0] 66)) :=
    run_loadVar_row _ _ 27 27 cs (0, 0) _ (by rw [Lib.alloc_old _ _ _ (by simp), heap_alloc_new]) Tryd.underlying27 rfl (by rw [hcs]; kernel_rfl)
  refine wp_seq (wp_seq (wp_region ?_))
  refine ops_step (i := 0) rfl rfl (exec_load rfl rfl hld) rfl ?_
  refine ops_step (i := 1) rfl rfl (exec_move (.inl rfl) rfl) rfl ?_
  have hsz : (w.alloc (.cells cs 27)).heap.size = w.heap.size + 1 := by simp
  show Exit.then _ _ Exit.normal { tmps := #[.agg cs, .pointer (some ⟨w.heap.size, 0, none⟩), .string ⟨#[]⟩, .pointer (some ⟨(w.alloc (.cells cs 27)).heap.size, 0, none⟩), undef, undef, .agg cs, .int .i64 0, undef, undef, undef, undef, undef, undef, undef, undef, undef, undef, undef, undef], defers := [] } _
  have hI0 : Lib.IsBuilder 66 5 (w.alloc (.cells cs 27)).heap.size (w.alloc (.cells cs 27)).heap.size (Lib.byteCells (hexL (l.take 0))) ((w.alloc (.cells cs 27)).alloc (.cells #[.pointer none, .slice none 0 0] 66)) := Lib.fresh_isBuilder 66 5 _
  have hB0 : Below w.heap.size w ((w.alloc (.cells cs 27)).alloc (.cells #[.pointer none, .slice none 0 0] 66)) := ((Below.refl _ w).alloc (Nat.le_refl _) _).alloc (by simp) _
  have hS0 : w.heap.size + 1 ≤ ((w.alloc (.cells cs 27)).alloc (.cells #[.pointer none, .slice none 0 0] 66)).heap.size := by simp
  rw [hsz] at hI0 ⊢
  generalize (w.alloc (.cells cs 27)).alloc (.cells #[.pointer none, .slice none 0 0] 66) = w1 at hI0 hB0 hS0
  clear hld
  go_wp2
  go_loopw [7] (fun i wr => ∃ k : Nat, k ≤ 32 ∧ i = .int .i64 k ∧ Lib.IsBuilder 66 5 (w.heap.size + 1) (w.heap.size + 1) (Lib.byteCells (hexL (l.take k))) wr ∧ Below w.heap.size w wr ∧ w.heap.size + 1 ≤ wr.heap.size) (fun i _ => 32 - (intOf i).toNat)
  case atStart => exact ⟨0, Nat.zero_le _, rfl, hI0, hB0, hS0⟩
  case round =>
    obtain ⟨k, hk, rfl, hI, hB, hsz⟩ := hrel
    by_cases hk2 : k < 32
    · obtain ⟨x, hx⟩ : ∃ x, x = l.getD k 0 := ⟨_, rfl⟩
      have hx256 : x < 256 := by rw [hx, List.getD_eq_getElem?_getD, List.getElem?_eq_getElem (by omega)]; exact hs _ (List.getElem_mem _)
      have hidx : ∀ w, (Instr.index 27 (.agg cs) (.int .i64 (k : Int))).run Tryd.prog w = .ok (.int .u8 (x : Int)) w := fun w => idx27 cs l hcs' hl k hk2 x hx w
      have hd1 := fun w => hex_index (x / 16) (by omega) w
      have hd2 := fun w => hex_index (x % 16) (by omega) w
      have htk : Lib.byteCells (hexL (l.take (k + 1))) = Lib.byteCells (hexL (l.take k)) ++ [.int .u8 (((hexN (x / 16)).toUInt8.toNat : Nat) : Int)] ++ [.int .u8 (((hexN (x % 16)).toUInt8.toNat : Nat) : Int)] := by
        rw [hexL_take l k (by omega), Lib.byteCells_append, Lib.byteCells_append, ← hx]
        rfl
      have hlen2 : (l.take k).length = k := by simp; omega
      clear hs hcs' hl hcs hx
      have hlen := hexL_len (l.take k)
      go_wp2_with (go_at_call 29; refine (Tryd.writeByte (w.heap.size + 1) (w.heap.size + 1) _ _ _ hI (by rw [Lib.byteCells_length, hlen]; omega) hsz).mono ?_)
      rintro e W1 ⟨rfl, h1, b1⟩
      go_wp2_with (go_at_call 29; refine (Tryd.writeByte (w.heap.size + 1) (w.heap.size + 1) _ _ _ (Or.inr h1) (by rw [List.length_append, Lib.byteCells_length, hlen]; simp; omega) (Nat.le_trans hsz b1.size)).mono ?_)
      rintro e W2 ⟨rfl, h2, b2⟩
      go_wp2
      refine ⟨⟨k + 1, by omega, rfl, Or.inr ?_, hB.trans ((b1.trans b2).mono (by omega)), by have := b1.size; have := b2.size; omega⟩, by simp [intOf]; omega⟩
      rw [htk, ← hex_digit (x / 16) (by omega), ← hex_digit (x % 16) (by omega)]
      exact h2
    · obtain rfl : k = 32 := by omega
      go_wp2_with (go_at_call 30; refine (Tryd.Builder_String_any (w.heap.size + 1) (w.heap.size + 1) _ _ hI hsz).mono ?_)
      rintro e W1 ⟨rfl, b1⟩
      go_wp2
      go_ret
      refine ⟨?_, hB.trans (b1.mono (by omega))⟩
      rw [List.take_of_length_le (by omega)]
      rfl
end Go.Proofs

