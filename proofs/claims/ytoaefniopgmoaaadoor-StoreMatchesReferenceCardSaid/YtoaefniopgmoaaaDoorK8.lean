/- What is read as data, as abstract values. -/
import Derived.Test.YtoaefniopgmoaaaDoorK7
import Derived.OpenShut
import Derived.ChangeArms
namespace Go.Bu
def offsOK (tt : Nat → TI) : Nat → List (Nat × Nat) → Bool
 | _, [] => true
 | n, (t, o) :: r => Nat.beq o n && offsOK tt (n + (tt t).size) r
def sumSz (tt : Nat → TI) : List (Nat × Nat) → Nat
 | [] => 0
 | (t, _) :: r => (tt t).size + sumSz tt r
def dataT (tt : Nat → TI) : Nat → Nat → Bool
 | 0, _ => false
 | n + 1, t =>
  match (tt t).d with
  | .int _ | .bool | .str => true
  | .slice e => (tt e).d.known && Nat.ble 1 (tt e).size && dataT tt n e
  | .array m e false => (tt e).d.known && Nat.beq (tt t).size (m * (tt e).size) && dataT tt n e
  | .struct fs => offsOK tt 0 fs && Nat.beq (tt t).size (sumSz tt fs) && fs.all fun x => (tt x.1).d.known && dataT tt n x.1
  | _ => false
def Typed (tt : Nat → TI) : Nat → Nat → AV → Prop
 | 0, _, _ => False
 | n + 1, t, x =>
  match (tt t).d with
  | .int k => ∃ z, x = .v (.int k z) ∧ k.min ≤ z ∧ z ≤ k.max
  | .bool => ∃ b, x = .sb b
  | .str => ∃ s : ByteArray, x = .v (.string s) ∧ s.size ≤ maxLen
  | .slice e => ∃ m ex f, x = .dat m ex (tt e).size f ∧ m ≤ maxLen ∧ ∀ i, i < m → Typed tt n e (f i)
  | .array m e false => ∃ f, x = .arr m (tt e).size f ∧ ∀ i, i < m → Typed tt n e (f i)
  | .struct fs => ∃ xs, x = .st xs ∧ xs.length = fs.length ∧ ∀ i t o y, nth? fs i = some (t, o) → nth? xs i = some y → Typed tt n t y
  | _ => False
theorem flat_chunks {α : Nat} : ∀ (n : Nat) (cs : List Value), cs.length = n * α → flat n (fun i => (cs.drop (i * α)).take α) = cs
 | 0, cs, h => by
  have : cs = [] := List.eq_nil_of_length_eq_zero (by simpa using h)
  subst this; rfl
 | n + 1, cs, h => by
  rw [flat]
  have h1 := flat_chunks (α := α) n (cs.take (n * α)) (by rw [List.length_take, h, Nat.succ_mul]; omega)
  have e : flat n (fun i => ((cs.take (n * α)).drop (i * α)).take α) = flat n (fun i => (cs.drop (i * α)).take α) := flat_congr fun i hi => by
   have hle : (i + 1) * α ≤ n * α := Nat.mul_le_mul_right _ hi
   rw [List.drop_take, List.take_take, Nat.min_eq_left]
   rw [Nat.succ_mul] at hle; omega
  rw [← e, h1]
  have hl : (cs.drop (n * α)).length = α := by rw [List.length_drop, h, Nat.succ_mul]; omega
  rw [List.take_of_length_le (Nat.le_of_eq hl), List.take_append_drop]
section
variable {C : Ctx} {P : Program} {w : World} {H : Type} {enc : TypeId × Value → H} {base : Nat} {sp : Nat → Bool} {held : Bool}
theorem cells_known (K : CtxOK C P) {t : Nat} (h : (C.tt t).d.known = true) : P.cellsOf t = (C.tt t).size := by
 obtain ⟨i, z, h1, h2, _⟩ := K.info t h
 simp [Program.cellsOf, h1, h2]
theorem struct_rep (n : Nat) (cs : List Value) : ∀ (fs : List (Nat × Nat)) (off : Nat), offsOK C.tt off fs = true →
  (∀ t' o, (t', o) ∈ fs → ∃ x, Rep w (fun b => b < w.heap.size) (fun _ => none) x ((cs.drop o).take (C.tt t').size) ∧ Typed C.tt n t' x ∧ ((cs.drop o).take (C.tt t').size).length = (C.tt t').size) →
  ∃ xs, Rep w (fun b => b < w.heap.size) (fun _ => none) (.st xs) ((cs.drop off).take (sumSz C.tt fs)) ∧ xs.length = fs.length ∧ ∀ i t o y, nth? fs i = some (t, o) → nth? xs i = some y → Typed C.tt n t y
 | [], off, _, _ => ⟨[], by simp only [sumSz, List.take_zero]; exact rep_st0, rfl, fun i t o y h => by cases i <;> cases h⟩
 | (t', o) :: r, off, ho, h => by
  simp only [offsOK, Bool.and_eq_true] at ho
  have e := beq_iff.1 ho.1
  subst e
  obtain ⟨x, h1, h2, h3⟩ := h t' o List.mem_cons_self
  obtain ⟨xs, g1, g2, g3⟩ := struct_rep n cs r (o + (C.tt t').size) ho.2 fun t2 o2 hm => h t2 o2 (List.mem_cons_of_mem _ hm)
  refine ⟨x :: xs, ?_, by simp [g2], fun i t o' y hf hy => ?_⟩
  ·have e : (cs.drop o).take (sumSz C.tt ((t', o) :: r)) = (cs.drop o).take (C.tt t').size ++ (cs.drop (o + (C.tt t').size)).take (sumSz C.tt r) := by
    simp only [sumSz]
    rw [List.take_add, List.drop_drop]
   rw [e]
   exact rep_cons h1 g1
  ·cases i with
   | zero => cases hf; cases hy; exact h2
   | succ i => exact g3 i t o' y hf hy
theorem trod_rep (K : CtxOK C P) : ∀ (n fuel t : Nat) (cs : List Value) (y : DataW H × List MemPlace), (C.tt t).d.known = true → dataT C.tt n t = true → DataW.trod enc P w base sp held fuel t cs = some y →
  ∃ x, Rep w (fun b => b < w.heap.size) (fun _ => none) x cs ∧ Typed C.tt n t x ∧ cs.length = (C.tt t).size
 | 0, _, _, _, _, _, hd, _ => by simp [dataT] at hd
 | n + 1, fuel, t, cs, y, hk, hd, h => by
  have htd := K.td t
  have hcells := cells_known K hk
  obtain ⟨inf, z, _, _, _, _, _, hfit⟩ := K.info t hk
  have hone : leaf (zeroAV C.tt 9 t) = true → (C.tt t).size = 1 := fun hl => by
   have := fits_size hfit
   rw [size_leaf hl] at this
   exact this.symm
  unfold dataT at hd
  split at hd
  ·rename_i k hdd
   rw [hdd] at htd
   simp only [tdOK] at htd
   obtain ⟨z, rfl, rfl, hz⟩ := DataW.trod_int htd h
   simp only [Lit.wf, Bool.and_eq_true, decide_eq_true_eq] at hz
   exact ⟨.v (.int k z), .v rfl, by simp only [Typed, hdd]; exact ⟨z, rfl, hz.1, hz.2⟩, by rw [hone (by simp [zeroAV, hdd, leaf])]; rfl⟩
  ·rename_i hdd
   rw [hdd] at htd
   simp only [tdOK] at htd
   obtain ⟨b, rfl, rfl⟩ := DataW.trod_bool htd h
   exact ⟨.sb b, .sb, by simp only [Typed, hdd]; exact ⟨b, rfl⟩, by rw [hone (by simp [zeroAV, hdd, leaf])]; rfl⟩
  ·rename_i hdd
   rw [hdd] at htd
   simp only [tdOK] at htd
   obtain ⟨s, rfl, rfl, hs⟩ := DataW.trod_string htd h
   exact ⟨.v (.string s), .v rfl, by simp only [Typed, hdd]; exact ⟨s, rfl, hs⟩, by rw [hone (by simp [zeroAV, hdd, leaf])]; rfl⟩
  ·rename_i e hdd
   rw [hdd] at htd
   simp only [tdOK] at htd
   simp only [Bool.and_eq_true] at hd
   obtain ⟨⟨h1, h2⟩, h3⟩ := hd
   have hsz : 1 ≤ (C.tt e).size := Nat.le_of_ble_eq_true h2
   have hce := cells_known K h1
   have h1s := hone (by simp [zeroAV, hdd, leaf])
   rcases DataW.trod_slice htd h with ⟨rfl, rfl⟩ | ⟨a, len, cap, elems, rest, m, _, rfl, rfl, hb, hl, hm, hlen, hel, _⟩
   ·exact ⟨.dat 0 true (C.tt e).size (fun _ => .sb true), .dat0 fun _ => rfl, by simp only [Typed, hdd]; exact ⟨0, true, _, rfl, Nat.zero_le _, fun i hi => absurd hi (Nat.not_lt_zero i)⟩, by rw [h1s]; rfl⟩
   ·have each : ∀ i, i < len → ∃ x g, w.cells? base (a.add (i * (C.tt e).size)) (C.tt e).size = some g ∧ Rep w (fun b => b < w.heap.size) (fun _ => none) x g ∧ Typed C.tt n e x ∧ g.length = (C.tt e).size := fun i hi => by
     have h4 := hel i hi
     rw [List.getElem?_eq_getElem (by omega), hce] at h4
     obtain ⟨g, h5, h6⟩ := Option.bind_eq_some_iff.1 h4
     obtain ⟨x, q1, q2, q3⟩ := trod_rep K n m e g _ h1 h3 h6
     exact ⟨x, g, h5, q1, q2, q3⟩
    have cg : ∀ i, ∃ xg : AV × List Value, i < len → w.cells? base (a.add (i * (C.tt e).size)) (C.tt e).size = some xg.2 ∧ Rep w (fun b => b < w.heap.size) (fun _ => none) xg.1 xg.2 ∧ Typed C.tt n e xg.1 ∧ xg.2.length = (C.tt e).size := fun i => by
     by_cases hi : i < len
     ·obtain ⟨x, g, q⟩ := each i hi; exact ⟨(x, g), fun _ => q⟩
     ·exact ⟨(.sb true, []), fun h => absurd h hi⟩
    refine ⟨.dat len false (C.tt e).size (fun i => (Classical.choose (cg i)).1), ?_, by simp only [Typed, hdd]; exact ⟨len, false, _, rfl, Nat.le_trans hl hm, fun i hi => (Classical.choose_spec (cg i) hi).2.2.1⟩, by rw [h1s]; rfl⟩
    rcases Nat.eq_zero_or_pos len with h0 | h0
    ·subst h0; exact .dat0 fun h => by cases h
    ·obtain ⟨hc0, _⟩ := Classical.choose_spec (cg 0) h0
     have hsp : a.spot = none := by
      obtain ⟨_, g0, q1, _, _, q4⟩ := each 0 h0
      have h5 := (World.cells?_some q1).2.2 0 (by omega)
      rw [Nat.zero_mul, List.getElem?_eq_getElem (by omega)] at h5
      have h6 : w.cell? a = some g0[0] := by simpa [Addr.add] using h5
      unfold World.cell? at h6
      split at h6
      ·cases hs : a.spot with
       | none => rfl
       | some x => rw [hs] at h6; simp at h6
      ·cases h6
     obtain ⟨b, o, s⟩ := a
     subst hsp
     refine .dat (fun i => (Classical.choose (cg i)).2) ?_ hl (fun h => by cases h) (fun i hi => (Classical.choose_spec (cg i) hi).2.2.2) (fun i j hi hj => ?_) (fun i hi => (Classical.choose_spec (cg i) hi).2.1)
     ·have := World.cells?_block hc0 (by omega)
      rw [addr_add] at this
      exact this
     ·have h5 := (World.cells?_some (Classical.choose_spec (cg i) hi).1).2.2 j hj
      rw [← h5]
      simp only [addr_add]
      congr 2
      omega
  ·rename_i m e hdd
   rw [hdd] at htd
   simp only [tdOK] at htd
   simp only [Bool.and_eq_true] at hd
   obtain ⟨⟨h1, h2⟩, h3⟩ := hd
   have hce := cells_known K h1
   have hsz := beq_iff.1 h2
   obtain ⟨xs, q, rfl, rfl, hlen, hxs, hel⟩ := DataW.trod_array htd h
   rw [hcells, hsz] at hlen
   have each : ∀ i, i < m → ∃ x, Rep w (fun b => b < w.heap.size) (fun _ => none) x ((cs.drop (i * (C.tt e).size)).take (C.tt e).size) ∧ Typed C.tt n e x ∧ ((cs.drop (i * (C.tt e).size)).take (C.tt e).size).length = (C.tt e).size := fun i hi => by
    have h4 := hel i hi
    rw [List.getElem?_eq_getElem (by omega), hce] at h4
    exact trod_rep K n q e _ _ h1 h3 h4
   have cg : ∀ i, ∃ x : AV, i < m → Rep w (fun b => b < w.heap.size) (fun _ => none) x ((cs.drop (i * (C.tt e).size)).take (C.tt e).size) ∧ Typed C.tt n e x ∧ ((cs.drop (i * (C.tt e).size)).take (C.tt e).size).length = (C.tt e).size := fun i => by
    by_cases hi : i < m
    ·obtain ⟨x, q⟩ := each i hi; exact ⟨x, fun _ => q⟩
    ·exact ⟨.sb true, fun h => absurd h hi⟩
   refine ⟨.arr m (C.tt e).size (fun i => Classical.choose (cg i)), .arr (fun i => (cs.drop (i * (C.tt e).size)).take (C.tt e).size) (fun i hi => (Classical.choose_spec (cg i) hi).2.2) (fun i hi => (Classical.choose_spec (cg i) hi).1) (flat_chunks m cs hlen).symm, ?_, by rw [hsz]; exact hlen⟩
   simp only [Typed, hdd]
   exact ⟨_, rfl, fun i hi => (Classical.choose_spec (cg i) hi).2.1⟩
  ·rename_i fs hdd
   rw [hdd] at htd
   simp only [tdOK] at htd
   obtain ⟨fields, hu, hmap, _⟩ := htd
   simp only [Bool.and_eq_true, List.all_eq_true] at hd
   obtain ⟨⟨h1, h2⟩, h3⟩ := hd
   have hsz := beq_iff.1 h2
   obtain ⟨xs, q, rfl, rfl, hlen, hxs, hel⟩ := DataW.trod_struct hu h
   rw [hcells] at hlen
   have each : ∀ t' o, (t', o) ∈ fs → ∃ x, Rep w (fun b => b < w.heap.size) (fun _ => none) x ((cs.drop o).take (C.tt t').size) ∧ Typed C.tt n t' x ∧ ((cs.drop o).take (C.tt t').size).length = (C.tt t').size := fun t' o ho => by
    rw [← hmap] at ho
    obtain ⟨f, hf, e⟩ := List.mem_map.1 ho
    simp only [Prod.mk.injEq] at e
    obtain ⟨rfl, rfl⟩ := e
    obtain ⟨i, hi, hfi⟩ := List.getElem_of_mem hf
    have hi' : i < fields.size := by simpa using hi
    have h4 := hel i f (by rw [Array.getElem?_eq_getElem hi']; simpa using hfi)
    have hm : (f.type, f.offset) ∈ fs := by rw [← hmap]; exact List.mem_map.2 ⟨f, hf, rfl⟩
    have h5 := h3 _ hm
    rw [List.getElem?_eq_getElem (by omega), cells_known K h5.1] at h4
    exact trod_rep K n q f.type _ _ h5.1 h5.2 h4
   obtain ⟨xs', g1, g2, g3⟩ := struct_rep n cs fs 0 h1 each
   have hall : (cs.drop 0).take (sumSz C.tt fs) = cs := by rw [List.drop_zero, List.take_of_length_le (by omega)]
   rw [hall] at g1
   refine ⟨.st xs', g1, ?_, hlen⟩
   simp only [Typed, hdd]
   exact ⟨xs', rfl, g2, g3⟩
  ·cases hd
end
end Go.Bu

