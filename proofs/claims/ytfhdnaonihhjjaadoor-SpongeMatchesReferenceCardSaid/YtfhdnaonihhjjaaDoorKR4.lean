/- The reference's hash of parts, and its stream. -/
import Derived.Test.YtfhdnaonihhjjaaDoorKR3
namespace Go.Bu.W
open Sp
def upN (n : Int) : Nat := 32 * ((n.toNat + 31) / 32)
def crRStream : List AV → Option (AV × List (Nat × Blk))
  | [.arr n _ f, id, k] => some (.sl 0 [] 0 (asI k).toNat (upN (asI k)) false 1, [(0, .c (ab (upN (asI k)) (streamN (bytesL n f) (asI id) (upN (asI k)))))])
  | _ => none
def crBlock : List AV → Option (AV × List (Nat × Blk))
  | [.arr n _ f, id, k] => some (sumAV (ofBytes 83 [bytesL n f, eightL (asI id), eightL (asI k)]), [])
  | _ => none
def crRT (g : Nat) (args : List AV) (H : List (Nat × Blk)) : Option (AV × List (Nat × Blk)) :=
  sel (Nat.beq g F_rstream) (crRStream args) <| sel (Nat.beq g F_block) (crBlock args) <| crRS g args H
def wayT (keep : List Nat) (nt : Nat) (cuts : List Nat) : Way := ⟨crRT, fun _ => false, keep, [], nt, cuts⟩
def w_rof : Way := wayT [0, 1, 4] 9 []
def w_block : Way := wayT [0, 1, 2, 3, 6] 14 []
def w_rstream : Way := wayT [0, 1, 2, 3, 6, 7, 8, 13] 27 []
def I_rt0 (key : List Nat) (id n : Int) (i : Nat) : St := { tm := [(1, .i id), (2, .i n), (3, .ptr 3 []), (7, .sl 7 [] 0 (32 * i) (32 * i) false 1)], hp := [(3, .c (.arr 32 1 (rowL key))), (7, .c (ab (32 * i) (streamN key id (32 * i))))], seen := [3, 7] }

theorem rof_A (tag : Nat) (ex : Bool) (exs : Nat → Bool) (ps : List (List Nat)) (K : Nat) (Φ : Ex → St → Prop) :
  (Holds C P 9 [] K Φ (vc C w_rof b_rof [] (start [u8 tag, dp ex exs ps] []) lf)) =
  (Fun W.C W.P (20 : Nat) [(AV.v (Value.int IntKind.u8 ((tag : Nat) : Int))), (AV.dat (List.length ps) ex (1 : Nat) (fun (i : Nat) => (AV.dat (List.length (List.getD ps i [])) (exs i) (1 : Nat) (rowL (List.getD ps i [])))))] [] (AV.sl (0 : Nat) [] (0 : Nat) (List.length (Sp.ofBytes tag (partsL (List.length ps) (fun (i : Nat) => (AV.dat (List.length (List.getD ps i [])) (exs i) (1 : Nat) (rowL (List.getD ps i []))))))) (List.length (Sp.ofBytes tag (partsL (List.length ps) (fun (i : Nat) => (AV.dat (List.length (List.getD ps i [])) (exs i) (1 : Nat) (rowL (List.getD ps i []))))))) false (1 : Nat)) [((0 : Nat), (Blk.c (AV.arr (List.length (Sp.ofBytes tag (partsL (List.length ps) (fun (i : Nat) => (AV.dat (List.length (List.getD ps i [])) (exs i) (1 : Nat) (rowL (List.getD ps i []))))))) (1 : Nat) (rowL (Sp.ofBytes tag (partsL (List.length ps) (fun (i : Nat) => (AV.dat (List.length (List.getD ps i [])) (exs i) (1 : Nat) (rowL (List.getD ps i []))))))))))] ∧
 (Fun W.C W.P (12 : Nat) [(AV.dat (List.length (Sp.ofBytes tag (partsL (List.length ps) (fun (i : Nat) => (AV.dat (List.length (List.getD ps i [])) (exs i) (1 : Nat) (rowL (List.getD ps i []))))))) false (1 : Nat) (fun (i : Nat) => (AV.v (Value.int IntKind.u8 (((List.getD (Sp.ofBytes tag (partsL (List.length ps) (fun (i1 : Nat) => (AV.dat (List.length (List.getD ps i1 [])) (exs i1) (1 : Nat) (rowL (List.getD ps i1 [])))))) ((0 : Nat) + i) (0 : Nat)) : Nat) : Int)))))] [] (AV.arr (32 : Nat) (1 : Nat) (fun (i : Nat) => (AV.v (Value.int IntKind.u8 (((Sp.sumN (bytesL (List.length (Sp.ofBytes tag (partsL (List.length ps) (fun (i1 : Nat) => (AV.dat (List.length (List.getD ps i1 [])) (exs i1) (1 : Nat) (rowL (List.getD ps i1 []))))))) (fun (i1 : Nat) => (AV.v (Value.int IntKind.u8 (((List.getD (Sp.ofBytes tag (partsL (List.length ps) (fun (i2 : Nat) => (AV.dat (List.length (List.getD ps i2 [])) (exs i2) (1 : Nat) (rowL (List.getD ps i2 [])))))) ((0 : Nat) + i1) (0 : Nat)) : Nat) : Int))))) i) : Nat) : Int))))) [] ∧
 ((∀ (i : Nat), ((i < (32 : Nat)) → True)) ∧
 ((((32 : Nat) = (32 : Nat)) ∧ (((1 : Nat) = (1 : Nat)) ∧ (∀ (i : Nat), ((i < (32 : Nat)) → ((true = true) ∧ (Bool.true = true)))))) ∧
 (Φ Ex.ret (St.mk [((0 : Nat), (AV.v (Value.int IntKind.u8 ((tag : Nat) : Int)))), ((1 : Nat), (AV.dat (List.length ps) ex (1 : Nat) (fun (i : Nat) => (AV.dat (List.length (List.getD ps i [])) (exs i) (1 : Nat) (rowL (List.getD ps i [])))))), ((4 : Nat), (AV.ptr (4 : Nat) []))] [((4 : Nat), (Blk.c (AV.arr (32 : Nat) (1 : Nat) (fun (i : Nat) => (AV.v (Value.int IntKind.u8 (((Sp.sumN (bytesL (List.length (Sp.ofBytes tag (partsL (List.length ps) (fun (i1 : Nat) => (AV.dat (List.length (List.getD ps i1 [])) (exs i1) (1 : Nat) (rowL (List.getD ps i1 []))))))) (fun (i1 : Nat) => (AV.v (Value.int IntKind.u8 (((List.getD (Sp.ofBytes tag (partsL (List.length ps) (fun (i2 : Nat) => (AV.dat (List.length (List.getD ps i2 [])) (exs i2) (1 : Nat) (rowL (List.getD ps i2 [])))))) ((0 : Nat) + i1) (0 : Nat)) : Nat) : Int))))) i) : Nat) : Int))))))), ((7 : Nat), (Blk.c (AV.arr (List.length (Sp.ofBytes tag (partsL (List.length ps) (fun (i : Nat) => (AV.dat (List.length (List.getD ps i [])) (exs i) (1 : Nat) (rowL (List.getD ps i []))))))) (1 : Nat) (rowL (Sp.ofBytes tag (partsL (List.length ps) (fun (i : Nat) => (AV.dat (List.length (List.getD ps i [])) (exs i) (1 : Nat) (rowL (List.getD ps i []))))))))))] [(7 : Nat), (4 : Nat)])))))) := by kernel_rfl
theorem block_A (key : List Nat) (id i : Int) (K : Nat) (Φ : Ex → St → Prop) :
  (Holds C P 14 [] K Φ (vc C w_block b_block [] (start [.arr 32 1 (rowL key), .i id, .i i] []) lf)) =
  ((((0 : Int) ≤ (0 : Int)) ∧ (((0 : Int) ≤ (32 : Int)) ∧ ((32 : Int) ≤ (32 : Int)))) ∧
 (Fun W.C W.P (21 : Nat) [(AV.v (Value.int IntKind.i64 id))] [] (AV.sl (0 : Nat) [] (0 : Nat) (8 : Nat) (8 : Nat) false (1 : Nat)) [((0 : Nat), (Blk.c (AV.arr (8 : Nat) (1 : Nat) (fun (i1 : Nat) => (AV.v (Value.int IntKind.u8 (((Sp.eightN id i1) : Nat) : Int)))))))] ∧
 (Fun W.C W.P (21 : Nat) [(AV.v (Value.int IntKind.i64 i))] [] (AV.sl (0 : Nat) [] (0 : Nat) (8 : Nat) (8 : Nat) false (1 : Nat)) [((0 : Nat), (Blk.c (AV.arr (8 : Nat) (1 : Nat) (fun (i1 : Nat) => (AV.v (Value.int IntKind.u8 (((Sp.eightN i i1) : Nat) : Int)))))))] ∧
 (Fun W.C W.P (16 : Nat) [(AV.v (Value.int IntKind.u8 (83 : Int))), (AV.dat (3 : Nat) false (1 : Nat) (fun (i1 : Nat) => (nthD [(AV.dat (32 : Nat) false (1 : Nat) (fun (i2 : Nat) => (AV.v (Value.int IntKind.u8 (((List.getD key ((0 : Nat) + i2) (0 : Nat)) : Nat) : Int))))), (AV.dat (8 : Nat) false (1 : Nat) (fun (i2 : Nat) => (AV.v (Value.int IntKind.u8 (((Sp.eightN id ((0 : Nat) + i2)) : Nat) : Int))))), (AV.dat (8 : Nat) false (1 : Nat) (fun (i2 : Nat) => (AV.v (Value.int IntKind.u8 (((Sp.eightN i ((0 : Nat) + i2)) : Nat) : Int)))))] ((0 : Nat) + i1) (AV.v (Value.tuple (List.toArray []))))))] [] (AV.arr (32 : Nat) (1 : Nat) (fun (i1 : Nat) => (AV.v (Value.int IntKind.u8 (((Sp.sumN (Sp.ofBytes (83 : Nat) (partsL (3 : Nat) (fun (i2 : Nat) => (nthD [(AV.dat (32 : Nat) false (1 : Nat) (fun (i3 : Nat) => (AV.v (Value.int IntKind.u8 (((List.getD key ((0 : Nat) + i3) (0 : Nat)) : Nat) : Int))))), (AV.dat (8 : Nat) false (1 : Nat) (fun (i3 : Nat) => (AV.v (Value.int IntKind.u8 (((Sp.eightN id ((0 : Nat) + i3)) : Nat) : Int))))), (AV.dat (8 : Nat) false (1 : Nat) (fun (i3 : Nat) => (AV.v (Value.int IntKind.u8 (((Sp.eightN i ((0 : Nat) + i3)) : Nat) : Int)))))] ((0 : Nat) + i2) (AV.v (Value.tuple (List.toArray []))))))) i1) : Nat) : Int))))) [] ∧
 ((∀ (i1 : Nat), ((i1 < (32 : Nat)) → True)) ∧
 ((((32 : Nat) = (32 : Nat)) ∧ (((1 : Nat) = (1 : Nat)) ∧ (∀ (i1 : Nat), ((i1 < (32 : Nat)) → ((true = true) ∧ (Bool.true = true)))))) ∧
 (Φ Ex.ret (St.mk [((0 : Nat), (AV.arr (32 : Nat) (1 : Nat) (rowL key))), ((1 : Nat), (AV.v (Value.int IntKind.i64 id))), ((2 : Nat), (AV.v (Value.int IntKind.i64 i))), ((3 : Nat), (AV.ptr (3 : Nat) [])), ((6 : Nat), (AV.ptr (6 : Nat) []))] [((3 : Nat), (Blk.c (AV.arr (32 : Nat) (1 : Nat) (rowL key)))), ((6 : Nat), (Blk.c (AV.arr (32 : Nat) (1 : Nat) (fun (i1 : Nat) => (AV.v (Value.int IntKind.u8 (((Sp.sumN (Sp.ofBytes (83 : Nat) (partsL (3 : Nat) (fun (i2 : Nat) => (nthD [(AV.dat (32 : Nat) false (1 : Nat) (fun (i3 : Nat) => (AV.v (Value.int IntKind.u8 (((List.getD key ((0 : Nat) + i3) (0 : Nat)) : Nat) : Int))))), (AV.dat (8 : Nat) false (1 : Nat) (fun (i3 : Nat) => (AV.v (Value.int IntKind.u8 (((Sp.eightN id ((0 : Nat) + i3)) : Nat) : Int))))), (AV.dat (8 : Nat) false (1 : Nat) (fun (i3 : Nat) => (AV.v (Value.int IntKind.u8 (((Sp.eightN i ((0 : Nat) + i3)) : Nat) : Int)))))] ((0 : Nat) + i2) (AV.v (Value.tuple (List.toArray []))))))) i1) : Nat) : Int))))))), ((9 : Nat), (Blk.c (AV.arr (8 : Nat) (1 : Nat) (fun (i1 : Nat) => (AV.v (Value.int IntKind.u8 (((Sp.eightN id i1) : Nat) : Int))))))), ((11 : Nat), (Blk.c (AV.arr (8 : Nat) (1 : Nat) (fun (i1 : Nat) => (AV.v (Value.int IntKind.u8 (((Sp.eightN i i1) : Nat) : Int))))))), ((12 : Nat), (Blk.c (AV.st [(AV.sl (3 : Nat) [] (0 : Nat) (32 : Nat) (32 : Nat) true (1 : Nat)), (AV.sl (9 : Nat) [] (0 : Nat) (8 : Nat) (8 : Nat) false (1 : Nat)), (AV.sl (11 : Nat) [] (0 : Nat) (8 : Nat) (8 : Nat) false (1 : Nat))])))] [(12 : Nat), (11 : Nat), (9 : Nat), (6 : Nat), (3 : Nat)])))))))) := by kernel_rfl
theorem rstream_A (key : List Nat) (id n : Int) (K : Nat) (Φ : Ex → St → Prop) :
  (Holds C P 27 [] K Φ (vc C w_rstream b_rstream [] (start [.arr 32 1 (rowL key), .i id, .i n] []) lf)) =
  (LoopOK W.C W.P (27 : Nat) [] K (bodyAt b_rstream [1, 1, 0, 0]) (St.mk [((0 : Nat), (AV.arr (32 : Nat) (1 : Nat) (rowL key))), ((1 : Nat), (AV.v (Value.int IntKind.i64 id))), ((2 : Nat), (AV.v (Value.int IntKind.i64 n))), ((3 : Nat), (AV.ptr (3 : Nat) [])), ((6 : Nat), (AV.dat (0 : Nat) true (0 : Nat) (fun (x : Nat) => (AV.v (Value.tuple (List.toArray [])))))), ((7 : Nat), (AV.sl (9 : Nat) [] (0 : Nat) (0 : Nat) (0 : Nat) true (1 : Nat)))] [((3 : Nat), (Blk.c (AV.arr (32 : Nat) (1 : Nat) (rowL key)))), ((9 : Nat), (Blk.c (AV.st [])))] [(9 : Nat), (3 : Nat)]) (fun (e : Ex) (S' : St) => Holds W.C W.P (27 : Nat) [] K Φ (after W.C w_rstream b_rstream [1, 1, 0, 0] [] lf e S'))) := by kernel_rfl
noncomputable abbrev bd_rstream_0 : Code := bodyAt (b_rstream) [1, 1, 0, 0]
theorem ok_rstream_0 : codeOK bd_rstream_0 = true := by kernel_rfl
noncomputable abbrev rest_rstream_0 (K : Nat) (Φ : Ex → St → Prop) : Ex → St → Prop := fun e S' => Holds C P 27 [] K Φ (after C w_rstream (b_rstream) [1, 1, 0, 0] [] lf e S')
theorem rstream_L0 (key : List Nat) (id n : Int) (i : Nat) (K : Nat) (Φ : Ex → St → Prop) :
  (Holds C P 27 [] K (RoundQ C 27 [] K (I_rt0 key id n) (fun i => 32 * i ≤ n.toNat + 31) (fun i => n.toNat + 31 - 32 * i) ((fun i => n.toNat + 31 - 32 * i) (i)) (rest_rstream_0 K Φ)) (vc C w_rstream bd_rstream_0 [] ((I_rt0 key id n) (i)) lf)) =
  (((decide (((((32 : Nat) * i) : Nat) : Int) < n)) = true → 
 (((32 : Int) ≠ (0 : Int)) ∧
  ((I64 (((((32 : Nat) * i) / 32) : Nat) : Int)) ∧
  (Fun W.C W.P (32 : Nat) [(AV.arr (32 : Nat) (1 : Nat) (rowL key)), (AV.v (Value.int IntKind.i64 id)), (AV.v (Value.int IntKind.i64 (((((32 : Nat) * i) / 32) : Nat) : Int)))] [] (AV.arr (32 : Nat) (1 : Nat) (fun (i1 : Nat) => (AV.v (Value.int IntKind.u8 (((Sp.sumN (Sp.ofBytes (83 : Nat) ((bytesL (32 : Nat) (rowL key)) :: ((Sp.eightL id) :: ((Sp.eightL (((((32 : Nat) * i) / 32) : Nat) : Int)) :: [])))) i1) : Nat) : Int))))) [] ∧
  ((∀ (i1 : Nat), ((i1 < (32 : Nat)) → True)) ∧
  ((((32 : Nat) = (32 : Nat)) ∧ (((1 : Nat) = (1 : Nat)) ∧ (∀ (i1 : Nat), ((i1 < (32 : Nat)) → ((true = true) ∧ (Bool.true = true)))))) ∧
  ((((0 : Int) ≤ (0 : Int)) ∧ (((0 : Int) ≤ (32 : Int)) ∧ ((32 : Int) ≤ (32 : Int)))) ∧
  ((((((32 : Nat) * i) + (32 : Nat)) * (1 : Nat)) ≤ (140737488355328 : Nat)) ∧
  ((RoundQ C 27 [] K (I_rt0 key id n) (fun i => 32 * i ≤ n.toNat + 31) (fun i => n.toNat + 31 - 32 * i) ((fun i => n.toNat + 31 - 32 * i) (i)) (rest_rstream_0 K Φ)) Ex.normal (St.mk [((1 : Nat), (AV.v (Value.int IntKind.i64 id))), ((2 : Nat), (AV.v (Value.int IntKind.i64 n))), ((3 : Nat), (AV.ptr (3 : Nat) [])), ((7 : Nat), (AV.sl (22 : Nat) [] (0 : Nat) (((32 : Nat) * i) + (32 : Nat)) (((32 : Nat) * i) + (32 : Nat)) false (1 : Nat))), ((8 : Nat), (AV.ptr (8 : Nat) [])), ((13 : Nat), (AV.v (Value.bool true)))] [((3 : Nat), (Blk.c (AV.arr (32 : Nat) (1 : Nat) (rowL key)))), ((8 : Nat), (Blk.c (AV.arr (32 : Nat) (1 : Nat) (fun (i1 : Nat) => (AV.v (Value.int IntKind.u8 (((Sp.sumN (Sp.ofBytes (83 : Nat) ((bytesL (32 : Nat) (rowL key)) :: ((Sp.eightL id) :: ((Sp.eightL (((((32 : Nat) * i) / 32) : Nat) : Int)) :: [])))) i1) : Nat) : Int))))))), ((22 : Nat), (Blk.c (AV.arr (((32 : Nat) * i) + (32 : Nat)) (1 : Nat) (cat ((32 : Nat) * i) (fun (i1 : Nat) => (AV.v (Value.int IntKind.u8 (((W.streamN key id ((32 : Nat) * i) ((0 : Nat) + i1)) : Nat) : Int)))) (fun (i1 : Nat) => (AV.v (Value.int IntKind.u8 (((Sp.sumN (Sp.ofBytes (83 : Nat) ((bytesL (32 : Nat) (rowL key)) :: ((Sp.eightL id) :: ((Sp.eightL (((((32 : Nat) * i) / 32) : Nat) : Int)) :: [])))) ((0 : Nat) + i1)) : Nat) : Int))))))))] [(22 : Nat), (8 : Nat), (3 : Nat), (7 : Nat)])))))))))) ∧
 ((decide (((((32 : Nat) * i) : Nat) : Int) < n)) = false → 
 ((((0 : Int) ≤ (0 : Int)) ∧ (((0 : Int) ≤ (Max.max n (0 : Int))) ∧ ((Max.max n (0 : Int)) ≤ ((((32 : Nat) * i) : Nat) : Int)))) ∧
  (Φ Ex.ret (St.mk [((1 : Nat), (AV.v (Value.int IntKind.i64 id))), ((2 : Nat), (AV.v (Value.int IntKind.i64 n))), ((3 : Nat), (AV.ptr (3 : Nat) [])), ((6 : Nat), (AV.sl (7 : Nat) [] (0 : Nat) (Int.toNat (Max.max n (0 : Int))) ((32 : Nat) * i) false (1 : Nat))), ((7 : Nat), (AV.sl (7 : Nat) [] (0 : Nat) ((32 : Nat) * i) ((32 : Nat) * i) false (1 : Nat))), ((13 : Nat), (AV.v (Value.bool false)))] [((3 : Nat), (Blk.c (AV.arr (32 : Nat) (1 : Nat) (rowL key)))), ((7 : Nat), (Blk.c (AV.arr ((32 : Nat) * i) (1 : Nat) (fun (i1 : Nat) => (AV.v (Value.int IntKind.u8 (((W.streamN key id ((32 : Nat) * i) i1) : Nat) : Int)))))))] [(3 : Nat), (7 : Nat)]))))) := by kernel_rfl

theorem rsum_call {n e : Nat} {ex : Bool} {f : Nat → AV} (hb : B8 n f) (he : n = 0 ∨ e = 1) (hn : n < 2 ^ 46) : Fun C P F_rsum [.dat n ex e f] [] (sumAV (bytesL n f)) [] := by
  have h := rsum_fun ex (bytesL n f) (small_bytesL hb) (by rw [bytesL_len]; exact hn)
  refine h.sim ⟨.inr ⟨(bytesL_len n f).symm, id, he, fun i hi => .inl (row_bytesL hb i hi)⟩, trivial⟩ trivial
theorem parts_dat {exs : Nat → Bool} (ps : List (List Nat)) : partsL ps.length (fun i2 => AV.dat (ps.getD i2 []).length (exs i2) 1 (rowL (ps.getD i2 []))) = ps := by
  apply List.ext_getElem
  · simp [partsL]
  · intro i h1 h2
    have e : ps.getD i [] = ps[i] := by rw [List.getD_eq_getElem?_getD, List.getElem?_eq_getElem h2]; rfl
    simp only [partsL, List.getElem_map, List.getElem_range, datL]
    rw [e, bytesL_row]
theorem rof_fun (tag : Nat) (ex : Bool) (exs : Nat → Bool) (ps : List (List Nat)) (ht : tag < 256) (hp : ∀ p ∈ ps, Small p) (hn : (ofBytes tag ps).length < 2 ^ 46) :
    Fun C P F_rof [u8 tag, dp ex exs ps] [] (sumAV (ofBytes tag ps)) [] := by
  refine in_rof (W := w_rof) rfl 0 (by simp) rfl (fun id h => absurd rfl h) ?_
  refine of_eq (rof_A tag ex exs ps 0 _) ?_
  rw [parts_dat]
  have hb : B8 (ofBytes tag ps).length (fun i1 => u8 ((ofBytes tag ps).getD (0 + i1) 0)) := fun i _ => ⟨rfl, getD_small (small_ofBytes ht hp) _⟩
  have hl : bytesL (ofBytes tag ps).length (fun i1 => u8 ((ofBytes tag ps).getD (0 + i1) 0)) = ofBytes tag ps := bytesL_of rfl fun i _ => by rw [Nat.zero_add]
  have hs := rsum_call (ex := false) hb (.inr rfl) hn
  rw [hl] at hs ⊢
  exact ⟨bytes_fun tag ex exs ps hn, hs, fun _ _ => trivial, ⟨rfl, rfl, fun _ _ => ⟨rfl, rfl⟩⟩, post_cell rfl rfl (sm_same rfl) rfl⟩
theorem rof_call {tag n e : Nat} {ex : Bool} {f : Nat → AV} (ht : tag < 256) (hf : Parts n f) (he : n = 0 ∨ e = 1) (hn : (ofBytes tag (partsL n f)).length < 2 ^ 46) : Fun C P F_rof [u8 tag, .dat n ex e f] [] (sumAV (ofBytes tag (partsL n f))) [] := by
  have hlen : (partsL n f).length = n := by simp [partsL]
  have hget : ∀ i, i < n → (partsL n f).getD i [] = datL (f i) := fun i hi => by simp [partsL, List.getD_eq_getElem?_getD, hi]
  have hsm : ∀ p ∈ partsL n f, Small p := fun p hp => by
    obtain ⟨i, hi, rfl⟩ := List.mem_map.1 hp
    obtain ⟨m, ex, e, g, h1, h2, h3⟩ := hf i (List.mem_range.1 hi)
    rw [h1]
    exact small_bytesL h3
  have h := rof_fun tag ex (fun i => match f i with | .dat _ x _ _ => x | _ => false) (partsL n f) ht hsm hn
  refine h.sim ⟨sm_same rfl, .inr ⟨hlen.symm, id, he, fun i hi => .inr ?_⟩, trivial⟩ trivial
  obtain ⟨m, x, e', g, h1, h2, h3⟩ := hf i hi
  dsimp only
  rw [hget i hi, h1]
  exact ⟨(bytesL_len m g).symm, id, h2, fun j hj => .inl (row_bytesL h3 j hj)⟩
theorem block_fun (key : List Nat) (id i : Int) (hk : key.length = 32) (hs : Small key) (hid : I64 id) (hi : I64 i) : Fun C P F_block [.arr 32 1 (rowL key), .i id, .i i] [] (sumAV (ofBytes 83 [key, eightL id, eightL i])) [] := by
  refine in_block (W := w_block) rfl 0 (by simp) rfl (fun id h => absurd rfl h) ?_
  refine of_eq (block_A key id i 0 _) ?_
  have hof := rof_call (tag := 83) (ex := false) (e := 1) (by decide) (parts_blk (id := id) (i := i) hs) (.inr rfl) (by rw [partsL_blk hk]; simp [ofBytes, eightL, hk])
  rw [partsL_blk hk] at hof ⊢
  exact ⟨(by first | omega | decide | (unfold I64; omega)), reight_fun id hid, reight_fun i hi, hof, fun _ _ => trivial, ⟨rfl, rfl, fun _ _ => ⟨rfl, rfl⟩⟩, post_cell rfl rfl (sm_same rfl) rfl⟩
theorem rstream_fun (key : List Nat) (id n : Int) (hk : key.length = 32) (hs : Small key) (hid : I64 id) (hn : n.toNat < 2 ^ 40) :
    Fun C P F_rstream [.arr 32 1 (rowL key), .i id, .i n] [] (.sl 0 [] 0 n.toNat (upN n) false 1) [(0, .c (ab (upN n) (streamN key id (upN n))))] := by
  refine in_rstream (W := w_rstream) rfl 0 (by simp) rfl (fun id h => absurd rfl h) ?_
  refine of_eq (rstream_A key id n 0 _) ?_
  refine loop_inv (W := w_rstream) ctx mixed ok_rstream_0 (I_rt0 key id n) (fun i => 32 * i ≤ n.toNat + 31) (fun i => n.toNat + 31 - 32 * i) 0 (by omega) ?_ fun i hi => ?_
  · refine ent_of [(3, 3), (9, 7)] rfl (tm_cons rfl (sm_same rfl) (tm_cons rfl (sm_same rfl) (tm_cons rfl (sm_ptr rfl) (tm_cons rfl (sm_sl rfl rfl (Nat.le_refl _) (Nat.le_refl _) (by simp)) tm_nil)))) (hp_cons rfl rfl (sm_same rfl) (hp_cons rfl rfl (sm_row rfl rfl rfl fun i x hx => ?_) hp_nil))
    cases i with
    | zero => cases hx
    | succ i => cases hx
  refine of_eq (rstream_L0 key id n i 0 _) ⟨fun h => ?_, fun h => ?_⟩
  · simp only [decide_eq_true_eq] at h
    have hb1 : bytesL 32 (rowL key) = key := bytesL_of hk.symm fun _ _ => rfl
    rw [hb1, Nat.mul_div_cancel_left i (by decide : 0 < 32)]
    refine ⟨(by first | omega | decide | (unfold I64; omega)), (by first | omega | decide | (unfold I64; omega)), block_fun key id _ hk hs hid (by first | omega | decide | (unfold I64; omega)), fun _ _ => trivial, ⟨rfl, rfl, fun _ _ => ⟨rfl, rfl⟩⟩, (by first | omega | decide | (unfold I64; omega)), (by first | omega | decide | (unfold I64; omega)), round_end (i + 1) (by omega) (ent_of [(3, 3), (22, 7)] rfl (tm_cons rfl (sm_same rfl) (tm_cons rfl (sm_same rfl) (tm_cons rfl (sm_ptr rfl) (tm_cons rfl (sm_sl rfl (by omega) (by omega) (by omega) (by simp)) tm_nil)))) (hp_cons rfl rfl (sm_same rfl) (hp_cons rfl rfl (sm_arr' (by omega) fun j hj => ?_) hp_nil))) (by dsimp only; omega)⟩
    have hj' : j < 32 * i + 32 := hj
    show _ = u8 ((streamL key id (32 * (i + 1))).getD j 0)
    rw [streamL_get key id (by omega)]
    unfold cat
    by_cases e : j < 32 * i
    · rw [if_pos e]
      dsimp only
      unfold streamN
      rw [Nat.zero_add, streamL_get key id e]
    · rw [if_neg e]
      dsimp only
      rw [Nat.zero_add, show j / 32 = i by omega, show j % 32 = j - 32 * i by omega]
      exact (congrArg (fun z : Nat => u8 z) (sumL_get _ (by omega))).symm
  simp only [decide_eq_false_iff_not] at h
  have hL : 32 * i = upN n := by unfold upN; omega
  have hmx : (max n 0).toNat = n.toNat := by omega
  rw [hmx, hL]
  have hup : n.toNat ≤ upN n := by unfold upN; omega
  refine ⟨by omega, funPost_of (S2 := { tm := [(6, .sl 0 [] 0 n.toNat (upN n) false 1)], hp := [(0, .c (ab (upN n) (streamN key id (upN n))))], seen := [0] }) (by simp) (ent_of [(7, 0)] rfl (tm_cons rfl (sm_sl rfl rfl hup (Nat.le_refl _) (by simp)) tm_nil) (hp_cons rfl rfl (sm_same rfl) hp_nil)) rfl
      (.inr ⟨rfl, rfl, rfl, rfl, hup, Nat.le_refl _, by simp, rfl⟩) fun _ _ h => h⟩
end Go.Bu.W

