/- What is known, lost, equal; keys of which some are destroyed. -/
import Derived.Test.YtelpjhdglgledaaDoorK18
namespace Go.Bu.W
open Sp
abbrev lsA (ex : Bool) (exs : Nat → Bool) (ls : List (List Cv)) : AV := .dat ls.length ex 1 (fun i => ksA (exs i) (ls.getD i []))
def toLs : AV → List (List Cv)
  | .dat n _ _ f => (List.range n).map fun i => toKs (f i)
  | _ => []
theorem toLs_A (ex : Bool) (exs : Nat → Bool) (ls : List (List Cv)) : toLs (lsA ex exs ls) = ls := by
  unfold toLs
  apply List.ext_getElem
  · simp
  · intro i h1 h2
    simp only [List.getElem_map, List.getElem_range, toKs_A]
    simp [List.getD_eq_getElem?_getD, List.getElem?_eq_getElem h2]
def knownB (ls : List (List Cv)) (x : Int) : Bool := ls.any fun l => hasB l x
def noneN (ls : List (List Cv)) (x : Int) : Nat := (ls.takeWhile fun l => !hasB l x).length
abbrev iA (ex : Bool) (l : List Int) : AV := .dat l.length ex 1 (fun i => .i (l.getD i 0))
def toIs : AV → List Int
  | .dat n _ _ f => (List.range n).map fun i => asI (f i)
  | _ => []
theorem toIs_A (ex : Bool) (l : List Int) : toIs (iA ex l) = l := by
  unfold toIs
  apply List.ext_getElem
  · simp
  · intro i h1 h2
    simp [asI, List.getD_eq_getElem?_getD, List.getElem?_eq_getElem (show i < l.length from h2)]
def lostL (l : List Cv) (ids : List Int) : List Int := ids.filter fun x => !hasB l x
def intsB (a b : List Int) : Bool := decide (a = b)
def eqC (c e : Cv) : Bool := (c.d == e.d) && ((c.a == e.a) && (((List.range 32).all fun i => ((c.k i : Nat) : Int) == ((e.k i : Nat) : Int)) && true))
def sameL (l q : List Cv) : Bool := decide (l.length = q.length) && (List.range l.length).all fun i => eqC (cAt l i) (cAt q i)
def cvB (c : Cv) : List Nat := [(IntKind.wrap .u8 c.d).toNat, (IntKind.wrap .u8 (bShr .i64 c.a 8)).toNat, (IntKind.wrap .u8 c.a).toNat] ++ (List.range 32).map c.k
def bytesK (l : List Cv) : List Nat := l.flatMap cvB
def pdI : AV → Int
  | .fn _ [.pd x] => asI x
  | _ => 0
def crKnown1 : List AV → Option (AV × List (Nat × Blk))
  | [x, .pd i] => some (.sb (hasB (toKs x) (asI i)), [])
  | _ => none
def crIdxF : List AV → Option (AV × List (Nat × Blk))
  | [x, f] => some (.i (if knownB (toLs x) (pdI f) then (noneN (toLs x) (pdI f) : Nat) else -1 : Int), [])
  | _ => none
def crContF : List AV → Option (AV × List (Nat × Blk))
  | [x, f] => some (.sb (knownB (toLs x) (pdI f)), [])
  | _ => none
def crKnown : List AV → Option (AV × List (Nat × Blk))
  | [x, i] => some (.sb (knownB (toLs x) (asI i)), [])
  | _ => none
def crLost : List AV → Option (AV × List (Nat × Blk))
  | [x, y] => some (iA false (lostL (toKs x) (toIs y)), [])
  | _ => none
def crInts : List AV → Option (AV × List (Nat × Blk))
  | [x, y] => some (.sb (intsB (toIs x) (toIs y)), [])
  | _ => none
def crSame : List AV → Option (AV × List (Nat × Blk))
  | [x, y] => some (.sb (sameL (toKs x) (toKs y)), [])
  | _ => none
def crKBytes : List AV → Option (AV × List (Nat × Blk))
  | [x] => some (rowB (bytesK (toKs x)), [])
  | _ => none
def seedK (s : Nat) : Nat → Nat := sumN [s]
def goneD (ids : List Nat) : List Int := ((ids.take 12).map fun i => ((i % 4096 : Nat) : Int)).reverse
def crMade : List AV → Option (AV × List (Nat × Blk))
  | [s, .dat n _ _ f] => some (ksA false (KV (seedK (asN s)) (goneD (bytesL n f))), [])
  | _ => none
def crS6 (g : Nat) (args : List AV) (H : List (Nat × Blk)) : Option (AV × List (Nat × Blk)) :=
  sel (Nat.beq g F_known1) (crKnown1 args) <| sel (Nat.beq g F_idxF) (crIdxF args) <| sel (Nat.beq g F_contF) (crContF args) <| sel (Nat.beq g F_known) (crKnown args) <| sel (Nat.beq g F_rknown) (crKnown args) <|
  sel (Nat.beq g F_lost) (crLost args) <| sel (Nat.beq g F_rlost) (crLost args) <| sel (Nat.beq g F_ints) (crInts args) <| sel (Nat.beq g F_rsame) (crSame args) <| sel (Nat.beq g F_kbytes) (crKBytes args) <| sel (Nat.beq g F_rkbytes) (crKBytes args) <|
  sel (Nat.beq g F_made) (crMade args) <| crS5 g args H
def wayE (keep : List Nat) (nt : Nat) (cuts : List Nat) : Way := ⟨crS6, fun _ => false, keep, [], nt, cuts, []⟩
def w_known1 : Way := wayE [0, 1, 2, 3, 5] 13 []
def w_idxF : Way := wayE [0, 1, 4, 5, 7, 8, 9, 16] 19 []
def w_contF : Way := wayE [0, 1, 4] 9 []
def w_known : Way := wayE [0, 1, 3, 4] 8 []
def w_rknown : Way := wayE [0, 1, 4, 5, 9, 18] 19 []
def w_lost : Way := wayE [0, 1, 2, 4, 5, 7, 9, 10, 11, 12, 13, 23] 30 []
def w_rlost : Way := wayE [0, 1, 2, 4, 5, 6, 11, 20] 29 []
def w_ints : Way := wayE [0, 1, 4, 5, 10, 14, 25] 26 []
def w_rsame : Way := wayE [0, 1, 2, 3, 4, 5, 12, 17, 30] 31 []
def w_kbytes : Way := wayE [0, 1, 2, 3, 5, 7, 8, 9, 10] 32 []
def w_rkbytes : Way := wayE [0, 1, 2, 3, 4, 5, 11] 37 []
def w_made : Way := wayE [0, 1, 4, 5, 6, 18] 30 []
abbrev fnK (x : Int) : AV := .fn (.func 42) [.pd (.i x)]
abbrev u16A (ex : Bool) (ids : List Nat) : AV := .dat ids.length ex 1 (fun i => .v (.int .u16 ((ids.getD i 0 : Nat) : Int)))
def I_ix (ex : Bool) (exs : Nat → Bool) (ls : List (List Cv)) (x : Int) (i : Nat) : St := { tm := [(0, lsA ex exs ls), (1, fnK x), (7, .i ls.length), (8, .i i)], hp := [], seen := [] }
def I_rkn (ex : Bool) (exs : Nat → Bool) (ls : List (List Cv)) (x : Int) (i : Nat) : St := { tm := [(0, lsA ex exs ls), (1, .i x), (5, .i i)], hp := [], seen := [] }
def lostN (l : List Cv) (ids : List Int) (i : Nat) : List Int := lostL l (ids.take i)
def I_lo (ex : Bool) (l : List Cv) (ey : Bool) (ids : List Int) (i : Nat) : St := { tm := [(2, .ptr 2 []), (5, .sl 5 [] 0 (lostN l ids i).length (lostN l ids i).length false 1), (10, iA ey ids), (11, .i ids.length), (12, .i i)], hp := [(2, .c (ksA ex l)), (5, .c (.arr (lostN l ids i).length 1 (fun j => .i ((lostN l ids i).getD j 0))))], seen := [2, 5] }
def I_rlo (ex : Bool) (l : List Cv) (ey : Bool) (ids : List Int) (i : Nat) : St := { tm := [(1, iA ey ids), (2, .ptr 2 []), (5, .sl 5 [] 0 (lostN l ids i).length (lostN l ids i).length false 1), (6, .i i)], hp := [(2, .c (ksA ex l)), (5, .c (.arr (lostN l ids i).length 1 (fun j => .i ((lostN l ids i).getD j 0))))], seen := [2, 5] }
def I_in (ex : Bool) (l : List Int) (ey : Bool) (q : List Int) (i : Nat) : St := { tm := [(0, iA ex l), (1, iA ey q), (5, .i i)], hp := [], seen := [] }
def I_sa (ex : Bool) (l : List Cv) (ey : Bool) (q : List Cv) (i : Nat) : St := { tm := [(2, .ptr 2 []), (3, .ptr 3 []), (5, .i i)], hp := [(2, .c (ksA ex l)), (3, .c (ksA ey q))], seen := [2, 3] }
def bytN (l : List Cv) (i : Nat) : List Nat := bytesK (l.take i)
def I_by (ex : Bool) (l : List Cv) (i : Nat) : St := { tm := [(1, .ptr 1 []), (3, .sl 3 [] 0 (bytN l i).length (bytN l i).length false 1), (7, kA ex l), (8, .i l.length), (9, .i i)], hp := [(1, .c (ksA ex l)), (3, .c (.arr (bytN l i).length 1 (rowL (bytN l i))))], seen := [1, 3] }
def I_rby (ex : Bool) (l : List Cv) (i : Nat) : St := { tm := [(1, .ptr 1 []), (3, .sl 3 [] 0 (bytN l i).length (bytN l i).length false 1), (4, .i i)], hp := [(1, .c (ksA ex l)), (3, .c (.arr (bytN l i).length 1 (rowL (bytN l i))))], seen := [1, 3] }
def madeN (s : Nat) (ids : List Nat) (i : Nat) : List Cv := KV (seedK s) (goneD (ids.take i))
def I_ma (s : Nat) (ex : Bool) (ids : List Nat) (i : Nat) : St := { tm := [(1, u16A ex ids), (4, .ptr 4 []), (5, .ptr 5 []), (6, .i i)], hp := [(4, .c (.st [.dat 0 true 0 (fun _ => .v (.tuple #[]))])), (5, .c (ksA false (madeN s ids i)))], seen := [4, 5] }

theorem known1_A (ex : Bool) (l : List Cv) (x : Int) {D : Dom} (K : Nat) (Φ : Ex → St → Prop) :
  (Holds C P 13 D K Φ (vc C w_known1 b_known1 [] (start [ksA ex l, .pd (.i x)] []) lf)) =
  (Fun W.C W.P 35 [(W.ksA ex l), (AV.i x)] [] (AV.tup [(AV.i (if ((W.inR x) = true) then (((W.findI (W.toKs (W.ksA ex l)) x) : Nat) : Int) else (0 : Int))), (AV.sb (W.hasB (W.toKs (W.ksA ex l)) x))]) [] ∧
 (Φ Ex.ret (St.mk [(0, (W.ksA ex l)), (1, (AV.pd (AV.i x))), (2, (AV.ptr 2 [])), (3, (AV.sb (W.hasB (W.toKs (W.ksA ex l)) x))), (5, (AV.sb (W.hasB (W.toKs (W.ksA ex l)) x)))] [(2, (Blk.c (W.ksA ex l)))] [2]))) := by kernel_rfl
theorem idxF_A (ex : Bool) (exs : Nat → Bool) (ls : List (List Cv)) (x : Int) {D : Dom} (K : Nat) (Φ : Ex → St → Prop) :
  (Holds C P 19 D K Φ (vc C w_idxF b_idxF [] (start [lsA ex exs ls, fnK x] []) lf)) =
  (LoopOK W.C W.P 19 D K (bodyAt b_idxF [1, 0, 1, 0]) (St.mk [(0, (AV.dat (List.length ls) ex 1 (fun (i : Nat) => (W.ksA (exs i) (List.getD ls i ([] : List Cv)))))), (1, (AV.fn (Fn.func (42 : FuncId)) [(AV.pd (AV.i x))])), (4, (AV.i (0 : Int))), (7, (AV.i (((List.length ls) : Nat) : Int))), (8, (AV.i (0 : Int)))] [] []) (fun (e : Ex) (S' : St) => Holds W.C W.P 19 D K Φ (after W.C w_idxF b_idxF [1, 0, 1, 0] [] lf e S'))) := by kernel_rfl
noncomputable abbrev bd_idxF_0 : Code := bodyAt (b_idxF) [1, 0, 1, 0]
theorem ok_idxF_0 : codeOK bd_idxF_0 = true := by kernel_rfl
noncomputable abbrev rest_idxF_0 (D : Dom) (K : Nat) (Φ : Ex → St → Prop) : Ex → St → Prop := fun e S' => Holds C P 19 D K Φ (after C w_idxF (b_idxF) [1, 0, 1, 0] [] lf e S')
theorem idxF_L0 (ex : Bool) (exs : Nat → Bool) (ls : List (List Cv)) (x : Int) (i : Nat) {D : Dom} (K : Nat) (Φ : Ex → St → Prop) :
  (Holds C P 19 D K (RoundQ C 19 D K (I_ix ex exs ls x) (fun i => i ≤ ls.length ∧ ∀ k, k < i → hasB (ls.getD k []) x = false) (fun i => ls.length - i) ((fun i => ls.length - i) (i)) (rest_idxF_0 D K Φ)) (vc C w_idxF bd_idxF_0 [] ((I_ix ex exs ls x) (i)) lf)) =
  (((decide (((i : Nat) : Int) < (((List.length ls) : Nat) : Int))) = true →
 ((((0 : Int) ≤ ((i : Nat) : Int)) ∧ (((i : Nat) : Int) < (((List.length ls) : Nat) : Int))) ∧
  (Fun W.C W.P (42 : FuncId) [(W.ksA (exs i) (List.getD ls i ([] : List Cv))), (AV.pd (AV.i x))] [] (AV.sb (W.hasB (W.toKs (W.ksA (exs i) (List.getD ls i ([] : List Cv)))) x)) [] ∧
  (True ∧
  (((W.hasB (W.toKs (W.ksA (exs i) (List.getD ls i ([] : List Cv)))) x) = true →
  (Φ Ex.ret (St.mk [(0, (AV.dat (List.length ls) ex 1 (fun (i1 : Nat) => (W.ksA (exs i1) (List.getD ls i1 ([] : List Cv)))))), (1, (AV.fn (Fn.func (42 : FuncId)) [(AV.pd (AV.i x))])), (4, (AV.i ((i : Nat) : Int))), (5, (AV.i ((i : Nat) : Int))), (7, (AV.i (((List.length ls) : Nat) : Int))), (8, (AV.i ((i : Nat) : Int))), (9, (AV.v (Value.bool true))), (16, (AV.v (Value.bool true)))] [] []))) ∧
  ((W.hasB (W.toKs (W.ksA (exs i) (List.getD ls i ([] : List Cv)))) x) = false →
  ((I64 (((i + 1) : Nat) : Int)) ∧
   ((RoundQ C 19 D K (I_ix ex exs ls x) (fun i => i ≤ ls.length ∧ ∀ k, k < i → hasB (ls.getD k []) x = false) (fun i => ls.length - i) ((fun i => ls.length - i) (i)) (rest_idxF_0 D K Φ)) Ex.normal (St.mk [(0, (AV.dat (List.length ls) ex 1 (fun (i1 : Nat) => (W.ksA (exs i1) (List.getD ls i1 ([] : List Cv)))))), (1, (AV.fn (Fn.func (42 : FuncId)) [(AV.pd (AV.i x))])), (5, (AV.i ((i : Nat) : Int))), (7, (AV.i (((List.length ls) : Nat) : Int))), (8, (AV.i (((i + 1) : Nat) : Int))), (9, (AV.v (Value.bool true))), (16, (AV.v (Value.bool false)))] [] []))))))))) ∧
 ((decide (((i : Nat) : Int) < (((List.length ls) : Nat) : Int))) = false →
 (Φ Ex.ret (St.mk [(0, (AV.dat (List.length ls) ex 1 (fun (i1 : Nat) => (W.ksA (exs i1) (List.getD ls i1 ([] : List Cv)))))), (1, (AV.fn (Fn.func (42 : FuncId)) [(AV.pd (AV.i x))])), (4, (AV.i (-1 : Int))), (7, (AV.i (((List.length ls) : Nat) : Int))), (8, (AV.i ((i : Nat) : Int))), (9, (AV.v (Value.bool false)))] [] [])))) := by kernel_rfl
theorem contF_A (ex : Bool) (exs : Nat → Bool) (ls : List (List Cv)) (x : Int) {D : Dom} (K : Nat) (Φ : Ex → St → Prop) :
  (Holds C P 9 D K Φ (vc C w_contF b_contF [] (start [lsA ex exs ls, fnK x] []) lf)) =
  (Fun W.C W.P 56 [(AV.dat (List.length ls) ex 1 (fun (i : Nat) => (W.ksA (exs i) (List.getD ls i ([] : List Cv))))), (AV.fn (Fn.func (42 : FuncId)) [(AV.pd (AV.i x))])] [] (AV.i (if ((W.knownB (W.toLs (AV.dat (List.length ls) ex 1 (fun (i : Nat) => (W.ksA (exs i) (List.getD ls i ([] : List Cv)))))) (W.pdI (AV.fn (Fn.func (42 : FuncId)) [(AV.pd (AV.i x))]))) = true) then (((W.noneN (W.toLs (AV.dat (List.length ls) ex 1 (fun (i : Nat) => (W.ksA (exs i) (List.getD ls i ([] : List Cv)))))) (W.pdI (AV.fn (Fn.func (42 : FuncId)) [(AV.pd (AV.i x))]))) : Nat) : Int) else (-1 : Int))) [] ∧
 (True ∧
 (Φ Ex.ret (St.mk [(0, (AV.dat (List.length ls) ex 1 (fun (i : Nat) => (W.ksA (exs i) (List.getD ls i ([] : List Cv)))))), (1, (AV.fn (Fn.func (42 : FuncId)) [(AV.pd (AV.i x))])), (4, (AV.sb (decide ((if ((W.knownB (W.toLs (AV.dat (List.length ls) ex 1 (fun (i : Nat) => (W.ksA (exs i) (List.getD ls i ([] : List Cv)))))) (W.pdI (AV.fn (Fn.func (42 : FuncId)) [(AV.pd (AV.i x))]))) = true) then (((W.noneN (W.toLs (AV.dat (List.length ls) ex 1 (fun (i : Nat) => (W.ksA (exs i) (List.getD ls i ([] : List Cv)))))) (W.pdI (AV.fn (Fn.func (42 : FuncId)) [(AV.pd (AV.i x))]))) : Nat) : Int) else (-1 : Int)) ≥ (0 : Int)))))] [] [])))) := by kernel_rfl
theorem known_A (ex : Bool) (exs : Nat → Bool) (ls : List (List Cv)) (x : Int) {D : Dom} (K : Nat) (Φ : Ex → St → Prop) :
  (Holds C P 8 D K Φ (vc C w_known b_known [] (start [lsA ex exs ls, .i x] []) lf)) =
  (Fun W.C W.P 41 [(AV.dat (List.length ls) ex 1 (fun (i : Nat) => (W.ksA (exs i) (List.getD ls i ([] : List Cv))))), (AV.fn (Fn.func 42) [(AV.pd (AV.i x))])] [] (AV.sb (W.knownB (W.toLs (AV.dat (List.length ls) ex 1 (fun (i : Nat) => (W.ksA (exs i) (List.getD ls i ([] : List Cv)))))) (W.pdI (AV.fn (Fn.func 42) [(AV.pd (AV.i x))])))) [] ∧
 (True ∧
 (Φ Ex.ret (St.mk [(0, (AV.dat (List.length ls) ex 1 (fun (i : Nat) => (W.ksA (exs i) (List.getD ls i ([] : List Cv)))))), (1, (AV.i x)), (3, (AV.ptr 3 [])), (4, (AV.sb (W.knownB (W.toLs (AV.dat (List.length ls) ex 1 (fun (i : Nat) => (W.ksA (exs i) (List.getD ls i ([] : List Cv)))))) (W.pdI (AV.fn (Fn.func 42) [(AV.pd (AV.i x))])))))] [(3, (Blk.c (AV.i x)))] [3])))) := by kernel_rfl
theorem rknown_A (ex : Bool) (exs : Nat → Bool) (ls : List (List Cv)) (x : Int) {D : Dom} (K : Nat) (Φ : Ex → St → Prop) :
  (Holds C P 19 D K Φ (vc C w_rknown b_rknown [] (start [lsA ex exs ls, .i x] []) lf)) =
  (LoopOK W.C W.P 19 D K (bodyAt b_rknown [1, 0, 1, 0]) (St.mk [(0, (AV.dat (List.length ls) ex 1 (fun (i : Nat) => (W.ksA (exs i) (List.getD ls i ([] : List Cv)))))), (1, (AV.i x)), (4, (AV.v (Value.bool false))), (5, (AV.i (0 : Int)))] [] []) (fun (e : Ex) (S' : St) => Holds W.C W.P 19 D K Φ (after W.C w_rknown b_rknown [1, 0, 1, 0] [] lf e S'))) := by kernel_rfl
noncomputable abbrev bd_rknown_0 : Code := bodyAt (b_rknown) [1, 0, 1, 0]
theorem ok_rknown_0 : codeOK bd_rknown_0 = true := by kernel_rfl
noncomputable abbrev rest_rknown_0 (D : Dom) (K : Nat) (Φ : Ex → St → Prop) : Ex → St → Prop := fun e S' => Holds C P 19 D K Φ (after C w_rknown (b_rknown) [1, 0, 1, 0] [] lf e S')
theorem rknown_L0 (ex : Bool) (exs : Nat → Bool) (ls : List (List Cv)) (x : Int) (i : Nat) {D : Dom} (K : Nat) (Φ : Ex → St → Prop) :
  (Holds C P 19 D K (RoundQ C 19 D K (I_rkn ex exs ls x) (fun i => i ≤ ls.length ∧ ∀ k, k < i → hasB (ls.getD k []) x = false) (fun i => ls.length - i) ((fun i => ls.length - i) (i)) (rest_rknown_0 D K Φ)) (vc C w_rknown bd_rknown_0 [] ((I_rkn ex exs ls x) (i)) lf)) =
  (((decide (((i : Nat) : Int) < (((List.length ls) : Nat) : Int))) = true →
 ((((0 : Int) ≤ ((i : Nat) : Int)) ∧ (((i : Nat) : Int) < (((List.length ls) : Nat) : Int))) ∧
  (Fun W.C W.P 47 [(W.ksA (exs i) (List.getD ls i ([] : List Cv))), (AV.i x)] [] (AV.i (W.atI (W.toKs (W.ksA (exs i) (List.getD ls i ([] : List Cv)))) x)) [] ∧
  (True ∧
  (((decide ((W.atI (W.toKs (W.ksA (exs i) (List.getD ls i ([] : List Cv)))) x) ≥ (0 : Int))) = true →
  (Φ Ex.ret (St.mk [(0, (AV.dat (List.length ls) ex 1 (fun (i1 : Nat) => (W.ksA (exs i1) (List.getD ls i1 ([] : List Cv)))))), (1, (AV.i x)), (4, (AV.v (Value.bool true))), (5, (AV.i ((i : Nat) : Int))), (9, (AV.v (Value.bool true))), (18, (AV.v (Value.bool true)))] [] []))) ∧
  ((decide ((W.atI (W.toKs (W.ksA (exs i) (List.getD ls i ([] : List Cv)))) x) ≥ (0 : Int))) = false →
  ((I64 (((i + 1) : Nat) : Int)) ∧
   ((RoundQ C 19 D K (I_rkn ex exs ls x) (fun i => i ≤ ls.length ∧ ∀ k, k < i → hasB (ls.getD k []) x = false) (fun i => ls.length - i) ((fun i => ls.length - i) (i)) (rest_rknown_0 D K Φ)) Ex.normal (St.mk [(0, (AV.dat (List.length ls) ex 1 (fun (i1 : Nat) => (W.ksA (exs i1) (List.getD ls i1 ([] : List Cv)))))), (1, (AV.i x)), (5, (AV.i (((i + 1) : Nat) : Int))), (9, (AV.v (Value.bool true))), (18, (AV.v (Value.bool false)))] [] []))))))))) ∧
 ((decide (((i : Nat) : Int) < (((List.length ls) : Nat) : Int))) = false →
 (Φ Ex.ret (St.mk [(0, (AV.dat (List.length ls) ex 1 (fun (i1 : Nat) => (W.ksA (exs i1) (List.getD ls i1 ([] : List Cv)))))), (1, (AV.i x)), (4, (AV.v (Value.bool false))), (5, (AV.i ((i : Nat) : Int))), (9, (AV.v (Value.bool false)))] [] [])))) := by kernel_rfl
theorem lost_A (ex : Bool) (l : List Cv) (ey : Bool) (ids : List Int) {D : Dom} (K : Nat) (Φ : Ex → St → Prop) :
  (Holds C P 30 D K Φ (vc C w_lost b_lost [] (start [ksA ex l, iA ey ids] []) lf)) =
  (LoopOK W.C W.P 30 D K (bodyAt b_lost [1, 1, 0, 1, 0]) (St.mk [(0, (W.ksA ex l)), (1, (AV.dat (List.length ids) ey 1 (fun (i : Nat) => (AV.i (List.getD ids i (0 : Int)))))), (2, (AV.ptr 2 [])), (4, (AV.dat 0 true 0 (fun (x : Nat) => (AV.v (Value.tuple (List.toArray [])))))), (5, (AV.dat 0 true 0 (fun (x : Nat) => (AV.v (Value.tuple (List.toArray [])))))), (10, (AV.dat (List.length ids) ey 1 (fun (i : Nat) => (AV.i (List.getD ids i (0 : Int)))))), (11, (AV.i (((List.length ids) : Nat) : Int))), (12, (AV.i (0 : Int)))] [(2, (Blk.c (W.ksA ex l)))] [2]) (fun (e : Ex) (S' : St) => Holds W.C W.P 30 D K Φ (after W.C w_lost b_lost [1, 1, 0, 1, 0] [] lf e S'))) := by kernel_rfl
noncomputable abbrev bd_lost_0 : Code := bodyAt (b_lost) [1, 1, 0, 1, 0]
theorem ok_lost_0 : codeOK bd_lost_0 = true := by kernel_rfl
noncomputable abbrev rest_lost_0 (D : Dom) (K : Nat) (Φ : Ex → St → Prop) : Ex → St → Prop := fun e S' => Holds C P 30 D K Φ (after C w_lost (b_lost) [1, 1, 0, 1, 0] [] lf e S')
theorem lost_L0 (ex : Bool) (l : List Cv) (ey : Bool) (ids : List Int) (i : Nat) {D : Dom} (K : Nat) (Φ : Ex → St → Prop) :
  (Holds C P 30 D K (RoundQ C 30 D K (I_lo ex l ey ids) (fun i => i ≤ ids.length) (fun i => ids.length - i) ((fun i => ids.length - i) (i)) (rest_lost_0 D K Φ)) (vc C w_lost bd_lost_0 [] ((I_lo ex l ey ids) (i)) lf)) =
  (((decide (((i : Nat) : Int) < (((List.length ids) : Nat) : Int))) = true →
 ((((0 : Int) ≤ ((i : Nat) : Int)) ∧ (((i : Nat) : Int) < (((List.length ids) : Nat) : Int))) ∧
  (Fun W.C W.P 35 [(W.ksA ex l), (AV.i (List.getD ids i (0 : Int)))] [] (AV.tup [(AV.i (if ((W.inR (List.getD ids i (0 : Int))) = true) then (((W.findI (W.toKs (W.ksA ex l)) (List.getD ids i (0 : Int))) : Nat) : Int) else (0 : Int))), (AV.sb (W.hasB (W.toKs (W.ksA ex l)) (List.getD ids i (0 : Int))))]) [] ∧
  (((! (W.hasB (W.toKs (W.ksA ex l)) (List.getD ids i (0 : Int)))) = true →
  (((((List.length (W.lostN l ids i)) + 1) * 8) ≤ 140737488355328) ∧
   ((I64 (((i + 1) : Nat) : Int)) ∧
   ((RoundQ C 30 D K (I_lo ex l ey ids) (fun i => i ≤ ids.length) (fun i => ids.length - i) ((fun i => ids.length - i) (i)) (rest_lost_0 D K Φ)) Ex.normal (St.mk [(2, (AV.ptr 2 [])), (5, (AV.sl 27 [] 0 ((List.length (W.lostN l ids i)) + 1) ((List.length (W.lostN l ids i)) + 1) false 1)), (7, (AV.i (List.getD ids i (0 : Int)))), (9, (AV.sb (W.hasB (W.toKs (W.ksA ex l)) (List.getD ids i (0 : Int))))), (10, (AV.dat (List.length ids) ey 1 (fun (i1 : Nat) => (AV.i (List.getD ids i1 (0 : Int)))))), (11, (AV.i (((List.length ids) : Nat) : Int))), (12, (AV.i (((i + 1) : Nat) : Int))), (13, (AV.v (Value.bool true))), (23, (AV.v (Value.bool true)))] [(2, (Blk.c (W.ksA ex l))), (26, (Blk.c (AV.st [(AV.i (List.getD ids i (0 : Int)))]))), (27, (Blk.c (AV.arr ((List.length (W.lostN l ids i)) + 1) 1 (cat (List.length (W.lostN l ids i)) (fun (i1 : Nat) => (AV.i (List.getD (W.lostN l ids i) (0 + i1) (0 : Int)))) (fun (i1 : Nat) => (nthD [(AV.i (List.getD ids i (0 : Int)))] (0 + i1) (AV.v (Value.tuple (List.toArray [])))))))))] [27, 26, 2, 5]))))) ∧
  ((! (W.hasB (W.toKs (W.ksA ex l)) (List.getD ids i (0 : Int)))) = false →
  ((I64 (((i + 1) : Nat) : Int)) ∧
   ((RoundQ C 30 D K (I_lo ex l ey ids) (fun i => i ≤ ids.length) (fun i => ids.length - i) ((fun i => ids.length - i) (i)) (rest_lost_0 D K Φ)) Ex.normal (St.mk [(2, (AV.ptr 2 [])), (5, (AV.sl 5 [] 0 (List.length (W.lostN l ids i)) (List.length (W.lostN l ids i)) false 1)), (7, (AV.i (List.getD ids i (0 : Int)))), (9, (AV.sb (W.hasB (W.toKs (W.ksA ex l)) (List.getD ids i (0 : Int))))), (10, (AV.dat (List.length ids) ey 1 (fun (i1 : Nat) => (AV.i (List.getD ids i1 (0 : Int)))))), (11, (AV.i (((List.length ids) : Nat) : Int))), (12, (AV.i (((i + 1) : Nat) : Int))), (13, (AV.v (Value.bool true))), (23, (AV.v (Value.bool false)))] [(2, (Blk.c (W.ksA ex l))), (5, (Blk.c (AV.arr (List.length (W.lostN l ids i)) 1 (fun (j : Nat) => (AV.i (List.getD (W.lostN l ids i) j (0 : Int)))))))] [2, 5])))))))) ∧
 ((decide (((i : Nat) : Int) < (((List.length ids) : Nat) : Int))) = false →
 (Φ Ex.ret (St.mk [(2, (AV.ptr 2 [])), (4, (AV.sl 5 [] 0 (List.length (W.lostN l ids i)) (List.length (W.lostN l ids i)) false 1)), (5, (AV.sl 5 [] 0 (List.length (W.lostN l ids i)) (List.length (W.lostN l ids i)) false 1)), (10, (AV.dat (List.length ids) ey 1 (fun (i1 : Nat) => (AV.i (List.getD ids i1 (0 : Int)))))), (11, (AV.i (((List.length ids) : Nat) : Int))), (12, (AV.i ((i : Nat) : Int))), (13, (AV.v (Value.bool false)))] [(2, (Blk.c (W.ksA ex l))), (5, (Blk.c (AV.arr (List.length (W.lostN l ids i)) 1 (fun (j : Nat) => (AV.i (List.getD (W.lostN l ids i) j (0 : Int)))))))] [2, 5])))) := by kernel_rfl
theorem rlost_A (ex : Bool) (l : List Cv) (ey : Bool) (ids : List Int) {D : Dom} (K : Nat) (Φ : Ex → St → Prop) :
  (Holds C P 29 D K Φ (vc C w_rlost b_rlost [] (start [ksA ex l, iA ey ids] []) lf)) =
  (LoopOK W.C W.P 29 D K (bodyAt b_rlost [1, 1, 0, 1, 0]) (St.mk [(0, (W.ksA ex l)), (1, (AV.dat (List.length ids) ey 1 (fun (i : Nat) => (AV.i (List.getD ids i (0 : Int)))))), (2, (AV.ptr 2 [])), (4, (AV.dat 0 true 0 (fun (x : Nat) => (AV.v (Value.tuple (List.toArray [])))))), (5, (AV.sl 7 [] 0 0 0 true 1)), (6, (AV.i (0 : Int)))] [(2, (Blk.c (W.ksA ex l))), (7, (Blk.c (AV.st [])))] [7, 2]) (fun (e : Ex) (S' : St) => Holds W.C W.P 29 D K Φ (after W.C w_rlost b_rlost [1, 1, 0, 1, 0] [] lf e S'))) := by kernel_rfl
noncomputable abbrev bd_rlost_0 : Code := bodyAt (b_rlost) [1, 1, 0, 1, 0]
theorem ok_rlost_0 : codeOK bd_rlost_0 = true := by kernel_rfl
noncomputable abbrev rest_rlost_0 (D : Dom) (K : Nat) (Φ : Ex → St → Prop) : Ex → St → Prop := fun e S' => Holds C P 29 D K Φ (after C w_rlost (b_rlost) [1, 1, 0, 1, 0] [] lf e S')
theorem rlost_L0 (ex : Bool) (l : List Cv) (ey : Bool) (ids : List Int) (i : Nat) {D : Dom} (K : Nat) (Φ : Ex → St → Prop) :
  (Holds C P 29 D K (RoundQ C 29 D K (I_rlo ex l ey ids) (fun i => i ≤ ids.length) (fun i => ids.length - i) ((fun i => ids.length - i) (i)) (rest_rlost_0 D K Φ)) (vc C w_rlost bd_rlost_0 [] ((I_rlo ex l ey ids) (i)) lf)) =
  (((decide (((i : Nat) : Int) < (((List.length ids) : Nat) : Int))) = true →
 ((((0 : Int) ≤ ((i : Nat) : Int)) ∧ (((i : Nat) : Int) < (((List.length ids) : Nat) : Int))) ∧
  (Fun W.C W.P 47 [(W.ksA ex l), (AV.i (List.getD ids i (0 : Int)))] [] (AV.i (W.atI (W.toKs (W.ksA ex l)) (List.getD ids i (0 : Int)))) [] ∧
  (True ∧
  (((decide ((W.atI (W.toKs (W.ksA ex l)) (List.getD ids i (0 : Int))) < (0 : Int))) = true →
  ((((0 : Int) ≤ ((i : Nat) : Int)) ∧ (((i : Nat) : Int) < (((List.length ids) : Nat) : Int))) ∧
   (((((List.length (W.lostN l ids i)) + 1) * 8) ≤ 140737488355328) ∧
   ((I64 (((i + 1) : Nat) : Int)) ∧
   ((RoundQ C 29 D K (I_rlo ex l ey ids) (fun i => i ≤ ids.length) (fun i => ids.length - i) ((fun i => ids.length - i) (i)) (rest_rlost_0 D K Φ)) Ex.normal (St.mk [(1, (AV.dat (List.length ids) ey 1 (fun (i1 : Nat) => (AV.i (List.getD ids i1 (0 : Int)))))), (2, (AV.ptr 2 [])), (5, (AV.sl 27 [] 0 ((List.length (W.lostN l ids i)) + 1) ((List.length (W.lostN l ids i)) + 1) false 1)), (6, (AV.i (((i + 1) : Nat) : Int))), (11, (AV.v (Value.bool true))), (20, (AV.v (Value.bool true)))] [(2, (Blk.c (W.ksA ex l))), (26, (Blk.c (AV.st [(AV.i (List.getD ids i (0 : Int)))]))), (27, (Blk.c (AV.arr ((List.length (W.lostN l ids i)) + 1) 1 (cat (List.length (W.lostN l ids i)) (fun (i1 : Nat) => (AV.i (List.getD (W.lostN l ids i) (0 + i1) (0 : Int)))) (fun (i1 : Nat) => (nthD [(AV.i (List.getD ids i (0 : Int)))] (0 + i1) (AV.v (Value.tuple (List.toArray [])))))))))] [27, 26, 2, 5])))))) ∧
  ((decide ((W.atI (W.toKs (W.ksA ex l)) (List.getD ids i (0 : Int))) < (0 : Int))) = false →
  ((I64 (((i + 1) : Nat) : Int)) ∧
   ((RoundQ C 29 D K (I_rlo ex l ey ids) (fun i => i ≤ ids.length) (fun i => ids.length - i) ((fun i => ids.length - i) (i)) (rest_rlost_0 D K Φ)) Ex.normal (St.mk [(1, (AV.dat (List.length ids) ey 1 (fun (i1 : Nat) => (AV.i (List.getD ids i1 (0 : Int)))))), (2, (AV.ptr 2 [])), (5, (AV.sl 5 [] 0 (List.length (W.lostN l ids i)) (List.length (W.lostN l ids i)) false 1)), (6, (AV.i (((i + 1) : Nat) : Int))), (11, (AV.v (Value.bool true))), (20, (AV.v (Value.bool false)))] [(2, (Blk.c (W.ksA ex l))), (5, (Blk.c (AV.arr (List.length (W.lostN l ids i)) 1 (fun (j : Nat) => (AV.i (List.getD (W.lostN l ids i) j (0 : Int)))))))] [2, 5]))))))))) ∧
 ((decide (((i : Nat) : Int) < (((List.length ids) : Nat) : Int))) = false →
 (Φ Ex.ret (St.mk [(1, (AV.dat (List.length ids) ey 1 (fun (i1 : Nat) => (AV.i (List.getD ids i1 (0 : Int)))))), (2, (AV.ptr 2 [])), (4, (AV.sl 5 [] 0 (List.length (W.lostN l ids i)) (List.length (W.lostN l ids i)) false 1)), (5, (AV.sl 5 [] 0 (List.length (W.lostN l ids i)) (List.length (W.lostN l ids i)) false 1)), (6, (AV.i ((i : Nat) : Int))), (11, (AV.v (Value.bool false)))] [(2, (Blk.c (W.ksA ex l))), (5, (Blk.c (AV.arr (List.length (W.lostN l ids i)) 1 (fun (j : Nat) => (AV.i (List.getD (W.lostN l ids i) j (0 : Int)))))))] [2, 5])))) := by kernel_rfl
theorem ints_A (ex : Bool) (l : List Int) (ey : Bool) (q : List Int) {D : Dom} (K : Nat) (Φ : Ex → St → Prop) :
  (Holds C P 26 D K Φ (vc C w_ints b_ints [] (start [iA ex l, iA ey q] []) lf)) =
  ((((((List.length l) : Nat) : Int) != (((List.length q) : Nat) : Int)) = true →
 (Φ Ex.ret (St.mk [(0, (AV.dat (List.length l) ex 1 (fun (i : Nat) => (AV.i (List.getD l i (0 : Int)))))), (1, (AV.dat (List.length q) ey 1 (fun (i : Nat) => (AV.i (List.getD q i (0 : Int)))))), (4, (AV.v (Value.bool false))), (10, (AV.v (Value.bool true)))] [] []))) ∧
 (((((List.length l) : Nat) : Int) != (((List.length q) : Nat) : Int)) = false →
 (LoopOK W.C W.P 26 D K (bodyAt b_ints [1, 1, 0, 1, 0]) (St.mk [(0, (AV.dat (List.length l) ex 1 (fun (i : Nat) => (AV.i (List.getD l i (0 : Int)))))), (1, (AV.dat (List.length q) ey 1 (fun (i : Nat) => (AV.i (List.getD q i (0 : Int)))))), (4, (AV.v (Value.bool false))), (5, (AV.i (0 : Int))), (10, (AV.v (Value.bool false)))] [] []) (fun (e : Ex) (S' : St) => Holds W.C W.P 26 D K Φ (after W.C w_ints b_ints [1, 1, 0, 1, 0] [] lf e S'))))) := by kernel_rfl
noncomputable abbrev bd_ints_0 : Code := bodyAt (b_ints) [1, 1, 0, 1, 0]
theorem ok_ints_0 : codeOK bd_ints_0 = true := by kernel_rfl
noncomputable abbrev rest_ints_0 (D : Dom) (K : Nat) (Φ : Ex → St → Prop) : Ex → St → Prop := fun e S' => Holds C P 26 D K Φ (after C w_ints (b_ints) [1, 1, 0, 1, 0] [] lf e S')
theorem ints_L0 (ex : Bool) (l : List Int) (ey : Bool) (q : List Int) (i : Nat) {D : Dom} (K : Nat) (Φ : Ex → St → Prop) :
  (Holds C P 26 D K (RoundQ C 26 D K (I_in ex l ey q) (fun i => i ≤ l.length ∧ ∀ k, k < i → l.getD k 0 = q.getD k 0) (fun i => l.length - i) ((fun i => l.length - i) (i)) (rest_ints_0 D K Φ)) (vc C w_ints bd_ints_0 [] ((I_in ex l ey q) (i)) lf)) =
  (((decide (((i : Nat) : Int) < (((List.length l) : Nat) : Int))) = true →
 ((((0 : Int) ≤ ((i : Nat) : Int)) ∧ (((i : Nat) : Int) < (((List.length l) : Nat) : Int))) ∧
  ((((0 : Int) ≤ ((i : Nat) : Int)) ∧ (((i : Nat) : Int) < (((List.length q) : Nat) : Int))) ∧
  ((((List.getD l i (0 : Int)) != (List.getD q i (0 : Int))) = true →
  (Φ Ex.ret (St.mk [(0, (AV.dat (List.length l) ex 1 (fun (i1 : Nat) => (AV.i (List.getD l i1 (0 : Int)))))), (1, (AV.dat (List.length q) ey 1 (fun (i1 : Nat) => (AV.i (List.getD q i1 (0 : Int)))))), (4, (AV.v (Value.bool false))), (5, (AV.i ((i : Nat) : Int))), (14, (AV.v (Value.bool true))), (25, (AV.v (Value.bool true)))] [] []))) ∧
  (((List.getD l i (0 : Int)) != (List.getD q i (0 : Int))) = false →
  ((I64 (((i + 1) : Nat) : Int)) ∧
   ((RoundQ C 26 D K (I_in ex l ey q) (fun i => i ≤ l.length ∧ ∀ k, k < i → l.getD k 0 = q.getD k 0) (fun i => l.length - i) ((fun i => l.length - i) (i)) (rest_ints_0 D K Φ)) Ex.normal (St.mk [(0, (AV.dat (List.length l) ex 1 (fun (i1 : Nat) => (AV.i (List.getD l i1 (0 : Int)))))), (1, (AV.dat (List.length q) ey 1 (fun (i1 : Nat) => (AV.i (List.getD q i1 (0 : Int)))))), (5, (AV.i (((i + 1) : Nat) : Int))), (14, (AV.v (Value.bool true))), (25, (AV.v (Value.bool false)))] [] [])))))))) ∧
 ((decide (((i : Nat) : Int) < (((List.length l) : Nat) : Int))) = false →
 (Φ Ex.ret (St.mk [(0, (AV.dat (List.length l) ex 1 (fun (i1 : Nat) => (AV.i (List.getD l i1 (0 : Int)))))), (1, (AV.dat (List.length q) ey 1 (fun (i1 : Nat) => (AV.i (List.getD q i1 (0 : Int)))))), (4, (AV.v (Value.bool true))), (5, (AV.i ((i : Nat) : Int))), (14, (AV.v (Value.bool false)))] [] [])))) := by kernel_rfl
theorem rsame_A (ex : Bool) (l : List Cv) (ey : Bool) (q : List Cv) {D : Dom} (K : Nat) (Φ : Ex → St → Prop) :
  (Holds C P 31 D K Φ (vc C w_rsame b_rsame [] (start [ksA ex l, ksA ey q] []) lf)) =
  ((((((List.length l) : Nat) : Int) != (((List.length q) : Nat) : Int)) = true →
 (Φ Ex.ret (St.mk [(0, (W.ksA ex l)), (1, (W.ksA ey q)), (2, (AV.ptr 2 [])), (3, (AV.ptr 3 [])), (4, (AV.v (Value.bool false))), (12, (AV.v (Value.bool true)))] [(2, (Blk.c (W.ksA ex l))), (3, (Blk.c (W.ksA ey q)))] [3, 2]))) ∧
 (((((List.length l) : Nat) : Int) != (((List.length q) : Nat) : Int)) = false →
 (LoopOK W.C W.P 31 D K (bodyAt b_rsame [1, 1, 0, 1, 0]) (St.mk [(0, (W.ksA ex l)), (1, (W.ksA ey q)), (2, (AV.ptr 2 [])), (3, (AV.ptr 3 [])), (4, (AV.v (Value.bool false))), (5, (AV.i (0 : Int))), (12, (AV.v (Value.bool false)))] [(2, (Blk.c (W.ksA ex l))), (3, (Blk.c (W.ksA ey q)))] [3, 2]) (fun (e : Ex) (S' : St) => Holds W.C W.P 31 D K Φ (after W.C w_rsame b_rsame [1, 1, 0, 1, 0] [] lf e S'))))) := by kernel_rfl
noncomputable abbrev bd_rsame_0 : Code := bodyAt (b_rsame) [1, 1, 0, 1, 0]
theorem ok_rsame_0 : codeOK bd_rsame_0 = true := by kernel_rfl
noncomputable abbrev rest_rsame_0 (D : Dom) (K : Nat) (Φ : Ex → St → Prop) : Ex → St → Prop := fun e S' => Holds C P 31 D K Φ (after C w_rsame (b_rsame) [1, 1, 0, 1, 0] [] lf e S')
theorem rsame_L0 (ex : Bool) (l : List Cv) (ey : Bool) (q : List Cv) (i : Nat) {D : Dom} (K : Nat) (Φ : Ex → St → Prop) :
  (Holds C P 31 D K (RoundQ C 31 D K (I_sa ex l ey q) (fun i => i ≤ l.length ∧ ∀ k, k < i → eqC (cAt l k) (cAt q k) = true) (fun i => l.length - i) ((fun i => l.length - i) (i)) (rest_rsame_0 D K Φ)) (vc C w_rsame bd_rsame_0 [] ((I_sa ex l ey q) (i)) lf)) =
  (((decide (((i : Nat) : Int) < (((List.length l) : Nat) : Int))) = true →
 ((((0 : Int) ≤ ((i : Nat) : Int)) ∧ (((i : Nat) : Int) < (((List.length l) : Nat) : Int))) ∧
  ((((0 : Int) ≤ ((i : Nat) : Int)) ∧ (((i : Nat) : Int) < (((List.length q) : Nat) : Int))) ∧
  ((∀ (i1 : Nat), ((i1 < 32) → ((IntKind.u8 = IntKind.u8) ∧ (IntKind.u8 = IntKind.u8)))) ∧
  (((! (W.eqC (W.cAt l i) (W.cAt q i))) = true →
  (Φ Ex.ret (St.mk [(2, (AV.ptr 2 [])), (3, (AV.ptr 3 [])), (4, (AV.v (Value.bool false))), (5, (AV.i ((i : Nat) : Int))), (17, (AV.v (Value.bool true))), (30, (AV.v (Value.bool true)))] [(2, (Blk.c (W.ksA ex l))), (3, (Blk.c (W.ksA ey q)))] [2, 3]))) ∧
  ((! (W.eqC (W.cAt l i) (W.cAt q i))) = false →
  ((I64 (((i + 1) : Nat) : Int)) ∧
   ((RoundQ C 31 D K (I_sa ex l ey q) (fun i => i ≤ l.length ∧ ∀ k, k < i → eqC (cAt l k) (cAt q k) = true) (fun i => l.length - i) ((fun i => l.length - i) (i)) (rest_rsame_0 D K Φ)) Ex.normal (St.mk [(2, (AV.ptr 2 [])), (3, (AV.ptr 3 [])), (5, (AV.i (((i + 1) : Nat) : Int))), (17, (AV.v (Value.bool true))), (30, (AV.v (Value.bool false)))] [(2, (Blk.c (W.ksA ex l))), (3, (Blk.c (W.ksA ey q)))] [2, 3]))))))))) ∧
 ((decide (((i : Nat) : Int) < (((List.length l) : Nat) : Int))) = false →
 (Φ Ex.ret (St.mk [(2, (AV.ptr 2 [])), (3, (AV.ptr 3 [])), (4, (AV.v (Value.bool true))), (5, (AV.i ((i : Nat) : Int))), (17, (AV.v (Value.bool false)))] [(2, (Blk.c (W.ksA ex l))), (3, (Blk.c (W.ksA ey q)))] [2, 3])))) := by kernel_rfl
theorem kbytes_A (ex : Bool) (l : List Cv) {D : Dom} (K : Nat) (Φ : Ex → St → Prop) :
  (Holds C P 32 D K Φ (vc C w_kbytes b_kbytes [] (start [ksA ex l] []) lf)) =
  (LoopOK W.C W.P 32 D K (bodyAt b_kbytes [1, 1, 0, 1, 0]) (St.mk [(0, (W.ksA ex l)), (1, (AV.ptr 1 [])), (2, (AV.dat 0 true 0 (fun (x : Nat) => (AV.v (Value.tuple (List.toArray [])))))), (3, (AV.dat 0 true 0 (fun (x : Nat) => (AV.v (Value.tuple (List.toArray [])))))), (7, (W.kA ex l)), (8, (AV.i (((List.length l) : Nat) : Int))), (9, (AV.i (0 : Int)))] [(1, (Blk.c (W.ksA ex l)))] [1]) (fun (e : Ex) (S' : St) => Holds W.C W.P 32 D K Φ (after W.C w_kbytes b_kbytes [1, 1, 0, 1, 0] [] lf e S'))) := by kernel_rfl
noncomputable abbrev bd_kbytes_0 : Code := bodyAt (b_kbytes) [1, 1, 0, 1, 0]
theorem ok_kbytes_0 : codeOK bd_kbytes_0 = true := by kernel_rfl
noncomputable abbrev rest_kbytes_0 (D : Dom) (K : Nat) (Φ : Ex → St → Prop) : Ex → St → Prop := fun e S' => Holds C P 32 D K Φ (after C w_kbytes (b_kbytes) [1, 1, 0, 1, 0] [] lf e S')
theorem kbytes_L0 (ex : Bool) (l : List Cv) (i : Nat) {D : Dom} (K : Nat) (Φ : Ex → St → Prop) :
  (Holds C P 32 D K (RoundQ C 32 D K (I_by ex l) (fun i => i ≤ l.length) (fun i => l.length - i) ((fun i => l.length - i) (i)) (rest_kbytes_0 D K Φ)) (vc C w_kbytes bd_kbytes_0 [] ((I_by ex l) (i)) lf)) =
  (((decide (((i : Nat) : Int) < (((List.length l) : Nat) : Int))) = true →
 ((((0 : Int) ≤ ((i : Nat) : Int)) ∧ (((i : Nat) : Int) < (((List.length l) : Nat) : Int))) ∧
  ((W.ShC) ∧
  (((0 : Int) ≤ (8 : Int)) ∧
  (((((List.length (W.bytN l i)) + 3) * 1) ≤ 140737488355328) ∧
  ((((0 : Int) ≤ (0 : Int)) ∧ (((0 : Int) ≤ (32 : Int)) ∧ ((32 : Int) ≤ (32 : Int)))) ∧
  ((((((List.length (W.bytN l i)) + 3) + 32) * 1) ≤ 140737488355328) ∧
  ((I64 (((i + 1) : Nat) : Int)) ∧
  ((RoundQ C 32 D K (I_by ex l) (fun i => i ≤ l.length) (fun i => l.length - i) ((fun i => l.length - i) (i)) (rest_kbytes_0 D K Φ)) Ex.normal (St.mk [(1, (AV.ptr 1 [])), (3, (AV.sl 29 [] 0 (((List.length (W.bytN l i)) + 3) + 32) (((List.length (W.bytN l i)) + 3) + 32) false 1)), (5, (AV.ptr 5 [])), (7, (W.kA ex l)), (8, (AV.i (((List.length l) : Nat) : Int))), (9, (AV.i (((i + 1) : Nat) : Int))), (10, (AV.v (Value.bool true)))] [(1, (Blk.c (W.ksA ex l))), (5, (Blk.c (W.cvA (W.cAt l i)))), (24, (Blk.c (AV.st [(AV.v (Value.int IntKind.u8 (IntKind.wrap IntKind.u8 (W.Cv.d (W.cAt l i))))), (AV.v (Value.int IntKind.u8 (IntKind.wrap IntKind.u8 (bShr IntKind.i64 (W.Cv.a (W.cAt l i)) (8 : Int))))), (AV.v (Value.int IntKind.u8 (IntKind.wrap IntKind.u8 (W.Cv.a (W.cAt l i)))))]))), (29, (Blk.c (AV.arr (((List.length (W.bytN l i)) + 3) + 32) 1 (cat ((List.length (W.bytN l i)) + 3) (fun (i1 : Nat) => (cat (List.length (W.bytN l i)) (fun (i2 : Nat) => (AV.v (Value.int IntKind.u8 (((List.getD (W.bytN l i) (0 + i2) 0) : Nat) : Int)))) (fun (i2 : Nat) => (nthD [(AV.v (Value.int IntKind.u8 (IntKind.wrap IntKind.u8 (W.Cv.d (W.cAt l i))))), (AV.v (Value.int IntKind.u8 (IntKind.wrap IntKind.u8 (bShr IntKind.i64 (W.Cv.a (W.cAt l i)) (8 : Int))))), (AV.v (Value.int IntKind.u8 (IntKind.wrap IntKind.u8 (W.Cv.a (W.cAt l i)))))] (0 + i2) (AV.v (Value.tuple (List.toArray []))))) (0 + i1))) (fun (i1 : Nat) => (AV.v (Value.int IntKind.u8 (((W.Cv.k (W.cAt l i) (0 + i1)) : Nat) : Int))))))))] [29, 25, 24, 5, 1, 3])))))))))) ∧
 ((decide (((i : Nat) : Int) < (((List.length l) : Nat) : Int))) = false →
 (Φ Ex.ret (St.mk [(1, (AV.ptr 1 [])), (2, (AV.sl 3 [] 0 (List.length (W.bytN l i)) (List.length (W.bytN l i)) false 1)), (3, (AV.sl 3 [] 0 (List.length (W.bytN l i)) (List.length (W.bytN l i)) false 1)), (7, (W.kA ex l)), (8, (AV.i (((List.length l) : Nat) : Int))), (9, (AV.i ((i : Nat) : Int))), (10, (AV.v (Value.bool false)))] [(1, (Blk.c (W.ksA ex l))), (3, (Blk.c (AV.arr (List.length (W.bytN l i)) 1 (rowL (W.bytN l i)))))] [1, 3])))) := by kernel_rfl
theorem rkbytes_A (ex : Bool) (l : List Cv) {D : Dom} (K : Nat) (Φ : Ex → St → Prop) :
  (Holds C P 37 D K Φ (vc C w_rkbytes b_rkbytes [] (start [ksA ex l] []) lf)) =
  (LoopOK W.C W.P 37 D K (bodyAt b_rkbytes [1, 1, 0, 1, 0]) (St.mk [(0, (W.ksA ex l)), (1, (AV.ptr 1 [])), (2, (AV.dat 0 true 0 (fun (x : Nat) => (AV.v (Value.tuple (List.toArray [])))))), (3, (AV.sl 6 [] 0 0 0 true 1)), (4, (AV.i (0 : Int)))] [(1, (Blk.c (W.ksA ex l))), (6, (Blk.c (AV.st [])))] [6, 1]) (fun (e : Ex) (S' : St) => Holds W.C W.P 37 D K Φ (after W.C w_rkbytes b_rkbytes [1, 1, 0, 1, 0] [] lf e S'))) := by kernel_rfl
noncomputable abbrev bd_rkbytes_0 : Code := bodyAt (b_rkbytes) [1, 1, 0, 1, 0]
theorem ok_rkbytes_0 : codeOK bd_rkbytes_0 = true := by kernel_rfl
noncomputable abbrev rest_rkbytes_0 (D : Dom) (K : Nat) (Φ : Ex → St → Prop) : Ex → St → Prop := fun e S' => Holds C P 37 D K Φ (after C w_rkbytes (b_rkbytes) [1, 1, 0, 1, 0] [] lf e S')
theorem rkbytes_L0 (ex : Bool) (l : List Cv) (i : Nat) {D : Dom} (K : Nat) (Φ : Ex → St → Prop) :
  (Holds C P 37 D K (RoundQ C 37 D K (I_rby ex l) (fun i => i ≤ l.length) (fun i => l.length - i) ((fun i => l.length - i) (i)) (rest_rkbytes_0 D K Φ)) (vc C w_rkbytes bd_rkbytes_0 [] ((I_rby ex l) (i)) lf)) =
  (((decide (((i : Nat) : Int) < (((List.length l) : Nat) : Int))) = true →
 ((((0 : Int) ≤ ((i : Nat) : Int)) ∧ (((i : Nat) : Int) < (((List.length l) : Nat) : Int))) ∧
  ((W.ShC) ∧
  (((0 : Int) ≤ (8 : Int)) ∧
  (((((List.length (W.bytN l i)) + 3) * 1) ≤ 140737488355328) ∧
  ((((0 : Int) ≤ (0 : Int)) ∧ (((0 : Int) ≤ (32 : Int)) ∧ ((32 : Int) ≤ (32 : Int)))) ∧
  ((((((List.length (W.bytN l i)) + 3) + 32) * 1) ≤ 140737488355328) ∧
  ((I64 (((i + 1) : Nat) : Int)) ∧
  ((RoundQ C 37 D K (I_rby ex l) (fun i => i ≤ l.length) (fun i => l.length - i) ((fun i => l.length - i) (i)) (rest_rkbytes_0 D K Φ)) Ex.normal (St.mk [(1, (AV.ptr 1 [])), (3, (AV.sl 35 [] 0 (((List.length (W.bytN l i)) + 3) + 32) (((List.length (W.bytN l i)) + 3) + 32) false 1)), (4, (AV.i (((i + 1) : Nat) : Int))), (5, (AV.ptr 5 [])), (11, (AV.v (Value.bool true)))] [(1, (Blk.c (W.ksA ex l))), (5, (Blk.c (W.cvA (W.cAt l i)))), (30, (Blk.c (AV.st [(AV.v (Value.int IntKind.u8 (IntKind.wrap IntKind.u8 (W.Cv.d (W.cAt l i))))), (AV.v (Value.int IntKind.u8 (IntKind.wrap IntKind.u8 (bShr IntKind.i64 (W.Cv.a (W.cAt l i)) (8 : Int))))), (AV.v (Value.int IntKind.u8 (IntKind.wrap IntKind.u8 (W.Cv.a (W.cAt l i)))))]))), (35, (Blk.c (AV.arr (((List.length (W.bytN l i)) + 3) + 32) 1 (cat ((List.length (W.bytN l i)) + 3) (fun (i1 : Nat) => (cat (List.length (W.bytN l i)) (fun (i2 : Nat) => (AV.v (Value.int IntKind.u8 (((List.getD (W.bytN l i) (0 + i2) 0) : Nat) : Int)))) (fun (i2 : Nat) => (nthD [(AV.v (Value.int IntKind.u8 (IntKind.wrap IntKind.u8 (W.Cv.d (W.cAt l i))))), (AV.v (Value.int IntKind.u8 (IntKind.wrap IntKind.u8 (bShr IntKind.i64 (W.Cv.a (W.cAt l i)) (8 : Int))))), (AV.v (Value.int IntKind.u8 (IntKind.wrap IntKind.u8 (W.Cv.a (W.cAt l i)))))] (0 + i2) (AV.v (Value.tuple (List.toArray []))))) (0 + i1))) (fun (i1 : Nat) => (AV.v (Value.int IntKind.u8 (((W.Cv.k (W.cAt l i) (0 + i1)) : Nat) : Int))))))))] [35, 31, 30, 5, 1, 3])))))))))) ∧
 ((decide (((i : Nat) : Int) < (((List.length l) : Nat) : Int))) = false →
 (Φ Ex.ret (St.mk [(1, (AV.ptr 1 [])), (2, (AV.sl 3 [] 0 (List.length (W.bytN l i)) (List.length (W.bytN l i)) false 1)), (3, (AV.sl 3 [] 0 (List.length (W.bytN l i)) (List.length (W.bytN l i)) false 1)), (4, (AV.i ((i : Nat) : Int))), (11, (AV.v (Value.bool false)))] [(1, (Blk.c (W.ksA ex l))), (3, (Blk.c (AV.arr (List.length (W.bytN l i)) 1 (rowL (W.bytN l i)))))] [1, 3])))) := by kernel_rfl
theorem made_A (s : Nat) (ex : Bool) (ids : List Nat) {D : Dom} (K : Nat) (Φ : Ex → St → Prop) :
  (Holds C P 30 D K Φ (vc C w_made b_made [] (start [u8 s, u16A ex ids] []) lf)) =
  (Fun W.C W.P 18 [(AV.dat 1 false 1 (fun (i : Nat) => (nthD [(AV.v (Value.int IntKind.u8 ((s : Nat) : Int)))] (0 + i) (AV.v (Value.tuple (List.toArray []))))))] [] (W.kyA (Sp.sumN [s])) [] ∧
 ((∀ (i : Nat), ((i < 32) → True)) ∧
 (Fun W.C W.P 17 [(W.kyA (Sp.sumN [s]))] [] (W.ksA false (W.newL (Sp.sumN [s]))) [] ∧
 ((((true = true) ∧ (true = true)) ∧ True) ∧
 (LoopOK W.C W.P 30 D K (bodyAt b_made [1, 1, 0, 1, 0]) (St.mk [(0, (AV.v (Value.int IntKind.u8 ((s : Nat) : Int)))), (1, (AV.dat (List.length ids) ex 1 (fun (i : Nat) => (AV.v (Value.int IntKind.u16 (((List.getD ids i 0) : Nat) : Int)))))), (4, (AV.ptr 4 [])), (5, (AV.ptr 5 [])), (6, (AV.i (0 : Int)))] [(4, (Blk.c (AV.st [(AV.dat 0 true 0 (fun (x : Nat) => (AV.v (Value.tuple (List.toArray [])))))]))), (5, (Blk.c (W.ksA false (W.newL (Sp.sumN [s]))))), (8, (Blk.c (AV.st [(AV.v (Value.int IntKind.u8 ((s : Nat) : Int)))])))] [5, 8, 4]) (fun (e : Ex) (S' : St) => Holds W.C W.P 30 D K Φ (after W.C w_made b_made [1, 1, 0, 1, 0] [] lf e S'))))))) := by kernel_rfl
noncomputable abbrev bd_made_0 : Code := bodyAt (b_made) [1, 1, 0, 1, 0]
theorem ok_made_0 : codeOK bd_made_0 = true := by kernel_rfl
noncomputable abbrev rest_made_0 (D : Dom) (K : Nat) (Φ : Ex → St → Prop) : Ex → St → Prop := fun e S' => Holds C P 30 D K Φ (after C w_made (b_made) [1, 1, 0, 1, 0] [] lf e S')
set_option maxRecDepth 1000000 in
theorem made_L0 (s : Nat) (ex : Bool) (ids : List Nat) (i : Nat) {D : Dom} (K : Nat) (Φ : Ex → St → Prop) :
  (Holds C P 30 D K (RoundQ C 30 D K (I_ma s ex ids) (fun i => i ≤ ids.length ∧ i ≤ 12) (fun i => 12 - i) ((fun i => 12 - i) (i)) (rest_made_0 D K Φ)) (vc C w_made bd_made_0 [] ((I_ma s ex ids) (i)) lf)) =
  (((decide (((i : Nat) : Int) < (((List.length ids) : Nat) : Int))) = true →
 (((decide (((i : Nat) : Int) < (12 : Int))) = true →
  ((((0 : Int) ≤ ((i : Nat) : Int)) ∧ (((i : Nat) : Int) < (((List.length ids) : Nat) : Int))) ∧
   ((I64 (((List.getD ids i 0) : Nat) : Int)) ∧
   (((4096 : Int) ≠ (0 : Int)) ∧
   (Fun W.C W.P 24 [(W.ksA false (W.madeN s ids i)), (AV.i (Int.tmod (((List.getD ids i 0) : Nat) : Int) (4096 : Int)))] [] (W.ksA false (W.desL (W.toKs (W.ksA false (W.madeN s ids i))) (Int.tmod (((List.getD ids i 0) : Nat) : Int) (4096 : Int)))) [] ∧
   ((((true = true) ∧ (true = true)) ∧ True) ∧
   ((I64 (((i + 1) : Nat) : Int)) ∧
   ((RoundQ C 30 D K (I_ma s ex ids) (fun i => i ≤ ids.length ∧ i ≤ 12) (fun i => 12 - i) ((fun i => 12 - i) (i)) (rest_made_0 D K Φ)) Ex.normal (St.mk [(1, (AV.dat (List.length ids) ex 1 (fun (i1 : Nat) => (AV.v (Value.int IntKind.u16 (((List.getD ids i1 0) : Nat) : Int)))))), (4, (AV.ptr 4 [])), (5, (AV.ptr 5 [])), (6, (AV.i (((i + 1) : Nat) : Int))), (18, (AV.v (Value.bool true)))] [(4, (Blk.c (AV.st [(AV.dat 0 true 0 (fun (x : Nat) => (AV.v (Value.tuple (List.toArray [])))))]))), (5, (Blk.c (W.ksA false (W.desL (W.toKs (W.ksA false (W.madeN s ids i))) (Int.tmod (((List.getD ids i 0) : Nat) : Int) (4096 : Int))))))] [4, 5]))))))))) ∧
  ((decide (((i : Nat) : Int) < (12 : Int))) = false →
  ((((true = true) ∧ (true = true)) ∧ True) ∧
   (Φ Ex.ret (St.mk [(1, (AV.dat (List.length ids) ex 1 (fun (i1 : Nat) => (AV.v (Value.int IntKind.u16 (((List.getD ids i1 0) : Nat) : Int)))))), (4, (AV.ptr 4 [])), (5, (AV.ptr 5 [])), (6, (AV.i ((i : Nat) : Int))), (18, (AV.v (Value.bool false)))] [(4, (Blk.c (W.ksA false (W.madeN s ids i)))), (5, (Blk.c (W.ksA false (W.madeN s ids i))))] [4, 5])))))) ∧
 ((decide (((i : Nat) : Int) < (((List.length ids) : Nat) : Int))) = false →
 ((((true = true) ∧ (true = true)) ∧ True) ∧
  (Φ Ex.ret (St.mk [(1, (AV.dat (List.length ids) ex 1 (fun (i1 : Nat) => (AV.v (Value.int IntKind.u16 (((List.getD ids i1 0) : Nat) : Int)))))), (4, (AV.ptr 4 [])), (5, (AV.ptr 5 [])), (6, (AV.i ((i : Nat) : Int))), (18, (AV.v (Value.bool false)))] [(4, (Blk.c (W.ksA false (W.madeN s ids i)))), (5, (Blk.c (W.ksA false (W.madeN s ids i))))] [4, 5]))))) := by kernel_rfl

def LsOK (ls : List (List Cv)) : Prop := ∀ i, i < ls.length → VL (ls.getD i []) ∧ (ls.getD i []).length < 2 ^ 30
theorem known1_fun (ex : Bool) (l : List Cv) (x : Int) (hn : l.length < 2 ^ 60) (hv : VL l) : Fun C P F_known1 [ksA ex l, .pd (.i x)] [] (.sb (hasB l x)) [] := by
  refine in_known1 (W := w_known1) rfl 0 (by simp) rfl (fun id h => absurd rfl h) fun D => ?_
  refine of_eq (known1_A ex l x 0 _) ?_
  rw [toKs_A]
  exact ⟨find_fun ex l x hn hv, post_tmp rfl (sm_sb rfl)⟩
theorem noneN_at {ls : List (List Cv)} {x : Int} {i : Nat} (hi : i ≤ ls.length) (h1 : ∀ k, k < i → hasB (ls.getD k []) x = false) (h2 : i < ls.length → hasB (ls.getD i []) x = true) : noneN ls x = i :=
  tw_len (d := []) hi (fun k hk => by simp only [h1 k hk]; rfl) fun h => by simp only [h2 h]; rfl
theorem known_iff {ls : List (List Cv)} {x : Int} : knownB ls x = true ↔ ∃ i, i < ls.length ∧ hasB (ls.getD i []) x = true := by
  unfold knownB
  rw [List.any_eq_true]
  constructor
  · rintro ⟨l, hl, h⟩
    obtain ⟨i, hi, rfl⟩ := List.getElem_of_mem hl
    exact ⟨i, hi, by rw [List.getD_eq_getElem?_getD, List.getElem?_eq_getElem hi]; exact h⟩
  · rintro ⟨i, hi, h⟩
    exact ⟨_, List.getElem_mem hi, by rwa [List.getD_eq_getElem?_getD, List.getElem?_eq_getElem hi] at h⟩
theorem known_no {ls : List (List Cv)} {x : Int} (h : ∀ k, k < ls.length → hasB (ls.getD k []) x = false) : knownB ls x = false := Bool.eq_false_iff.2 fun hh => by
  obtain ⟨i, hi, g⟩ := known_iff.1 hh
  rw [h i hi] at g; cases g
theorem idxF_fun (ex : Bool) (exs : Nat → Bool) (ls : List (List Cv)) (x : Int) (hn : ls.length < 2 ^ 60) (hv : LsOK ls) : Fun C P F_idxF [lsA ex exs ls, fnK x] [] (.i (if knownB ls x then (noneN ls x : Nat) else -1 : Int)) [] := by
  refine in_idxF (W := w_idxF) rfl 0 (by simp) rfl (fun id h => absurd rfl h) fun D => ?_
  refine of_eq (idxF_A ex exs ls x 0 _) ?_
  refine loop_inv (W := w_idxF) ctx mixed ok_idxF_0 (I_ix ex exs ls x) (fun i => i ≤ ls.length ∧ ∀ k, k < i → hasB (ls.getD k []) x = false) (fun i => ls.length - i) 0 ⟨Nat.zero_le _, fun k hk => absurd hk (Nat.not_lt_zero k)⟩ ?_ fun i hi => ?_
  · exact ent_of [] rfl (tm_cons rfl (sm_same rfl) (tm_cons rfl (sm_same rfl) (tm_cons rfl (sm_same rfl) (tm_cons rfl (sm_same rfl) tm_nil)))) hp_nil
  obtain ⟨h1, h2⟩ := hi
  refine of_eq (idxF_L0 ex exs ls x i 0 _) ⟨fun h => ?_, fun h => ?_⟩
  · simp only [decide_eq_true_eq] at h
    have hi : i < ls.length := by omega
    rw [toKs_A]
    refine ⟨(by first | omega | decide | (unfold I64; omega)), known1_fun _ _ x (by have := (hv i hi).2; omega) (hv i hi).1, trivial, fun h3 => ?_, fun h3 => ⟨(by first | omega | decide | (unfold I64; omega)), round_end (i + 1) ⟨by omega, fun k hk => ?_⟩ (ent_of [] rfl (tm_cons rfl (sm_same rfl) (tm_cons rfl (sm_same rfl) (tm_cons rfl (sm_same rfl) (tm_cons rfl (sm_same rfl) tm_nil)))) hp_nil) (by dsimp only; omega)⟩⟩
    · rw [known_iff.2 ⟨i, hi, h3⟩, noneN_at h1 h2 fun _ => h3]
      exact post_tmp rfl (sm_int rfl)
    · by_cases e : k = i
      · rw [e]; exact h3
      · exact h2 k (by omega)
  · simp only [decide_eq_false_iff_not] at h
    rw [known_no fun k hk => h2 k (by omega)]
    exact post_tmp rfl (sm_int rfl)
theorem contF_fun (ex : Bool) (exs : Nat → Bool) (ls : List (List Cv)) (x : Int) (hn : ls.length < 2 ^ 60) (hv : LsOK ls) : Fun C P F_contF [lsA ex exs ls, fnK x] [] (.sb (knownB ls x)) [] := by
  refine in_contF (W := w_contF) rfl 0 (by simp) rfl (fun id h => absurd rfl h) fun D => ?_
  refine of_eq (contF_A ex exs ls x 0 _) ?_
  rw [toLs_A]
  refine ⟨idxF_fun ex exs ls x hn hv, trivial, post_tmp rfl (sm_sb ?_)⟩
  show decide ((if knownB ls x = true then ((noneN ls x : Nat) : Int) else -1) ≥ 0) = knownB ls x
  cases knownB ls x with
  | true => rw [if_pos rfl]; simp
  | false => rfl
theorem known_fun (ex : Bool) (exs : Nat → Bool) (ls : List (List Cv)) (x : Int) (hn : ls.length < 2 ^ 60) (hv : LsOK ls) : Fun C P F_known [lsA ex exs ls, .i x] [] (.sb (knownB ls x)) [] := by
  refine in_known (W := w_known) rfl 0 (by simp) rfl (fun id h => absurd rfl h) fun D => ?_
  refine of_eq (known_A ex exs ls x 0 _) ?_
  rw [toLs_A]
  exact ⟨contF_fun ex exs ls x hn hv, trivial, post_tmp rfl (sm_sb rfl)⟩
theorem rknown_fun (ex : Bool) (exs : Nat → Bool) (ls : List (List Cv)) (x : Int) (hn : ls.length < 2 ^ 60) (hv : LsOK ls) : Fun C P F_rknown [lsA ex exs ls, .i x] [] (.sb (knownB ls x)) [] := by
  refine in_rknown (W := w_rknown) rfl 0 (by simp) rfl (fun id h => absurd rfl h) fun D => ?_
  refine of_eq (rknown_A ex exs ls x 0 _) ?_
  refine loop_inv (W := w_rknown) ctx mixed ok_rknown_0 (I_rkn ex exs ls x) (fun i => i ≤ ls.length ∧ ∀ k, k < i → hasB (ls.getD k []) x = false) (fun i => ls.length - i) 0 ⟨Nat.zero_le _, fun k hk => absurd hk (Nat.not_lt_zero k)⟩ ?_ fun i hi => ?_
  · exact ent_of [] rfl (tm_cons rfl (sm_same rfl) (tm_cons rfl (sm_same rfl) (tm_cons rfl (sm_same rfl) tm_nil))) hp_nil
  obtain ⟨h1, h2⟩ := hi
  have at_iff : ∀ l : List Cv, (decide (atI l x ≥ 0)) = hasB l x := fun l => by
    unfold atI
    cases hasB l x with
    | true => rw [if_pos rfl]; simp
    | false => rfl
  refine of_eq (rknown_L0 ex exs ls x i 0 _) ⟨fun h => ?_, fun h => ?_⟩
  · simp only [decide_eq_true_eq] at h
    have hi : i < ls.length := by omega
    rw [toKs_A, at_iff]
    refine ⟨(by first | omega | decide | (unfold I64; omega)), rfind_fun _ _ x (by have := (hv i hi).2; omega) (hv i hi).1, trivial, fun h3 => ?_, fun h3 => ⟨(by first | omega | decide | (unfold I64; omega)), round_end (i + 1) ⟨by omega, fun k hk => ?_⟩ (ent_of [] rfl (tm_cons rfl (sm_same rfl) (tm_cons rfl (sm_same rfl) (tm_cons rfl (sm_same rfl) tm_nil))) hp_nil) (by dsimp only; omega)⟩⟩
    · rw [known_iff.2 ⟨i, hi, h3⟩]
      exact post_tmp rfl (sm_b rfl)
    · by_cases e : k = i
      · rw [e]; exact h3
      · exact h2 k (by omega)
  · simp only [decide_eq_false_iff_not] at h
    rw [known_no fun k hk => h2 k (by omega)]
    exact post_tmp rfl (sm_b rfl)
theorem lost_succ {l : List Cv} {ids : List Int} {i : Nat} (hi : i < ids.length) : lostN l ids (i + 1) = lostN l ids i ++ if !hasB l (ids.getD i 0) then [ids.getD i 0] else [] := by
  unfold lostN lostL
  rw [take_step (d := 0) hi, List.filter_append, List.filter_cons, List.filter_nil]
theorem lost_len (l : List Cv) (ids : List Int) (i : Nat) : (lostN l ids i).length ≤ i := by
  unfold lostN lostL
  exact Nat.le_trans (List.length_filter_le _ _) (by simp; omega)
theorem int_row {l : List Int} {x : Int} (i : Nat) (hi : i < l.length + 1) : cat l.length (fun i1 => AV.i (l.getD (0 + i1) 0)) (fun i1 => nthD [AV.i x] (0 + i1) (AV.v (Value.tuple (List.toArray [])))) i = AV.i ((l ++ [x]).getD i 0) := by
  unfold cat
  simp only [List.getD_eq_getElem?_getD]
  by_cases e : i < l.length
  · rw [if_pos e, Nat.zero_add, List.getElem?_append_left e]
  · rw [if_neg e, List.getElem?_append_right (by omega), show i - l.length = 0 by omega]; rfl
theorem lost_fun (ex : Bool) (l : List Cv) (ey : Bool) (ids : List Int) (hn : l.length < 2 ^ 60) (hv : VL l) (hi : ids.length < 2 ^ 40) : Fun C P F_lost [ksA ex l, iA ey ids] [] (iA false (lostL l ids)) [] := by
  refine in_lost (W := w_lost) rfl 0 (by simp) rfl (fun id h => absurd rfl h) fun D => ?_
  refine of_eq (lost_A ex l ey ids 0 _) ?_
  refine loop_inv (W := w_lost) ctx mixed ok_lost_0 (I_lo ex l ey ids) (fun i => i ≤ ids.length) (fun i => ids.length - i) 0 (Nat.zero_le _) ?_ fun i hi' => ?_
  · exact ent_of [(2, 2)] rfl (tm_cons rfl (sm_ptr rfl) (tm_cons rfl (sm_nil rfl rfl) (tm_cons rfl (sm_same rfl) (tm_cons rfl (sm_same rfl) (tm_cons rfl (sm_same rfl) tm_nil))))) (hp_cons rfl rfl (sm_same rfl) (hp_new rfl rfl hp_nil))
  have hlen := lost_len l ids i
  refine of_eq (lost_L0 ex l ey ids i 0 _) ⟨fun h => ?_, fun h => ?_⟩
  · simp only [decide_eq_true_eq] at h
    rw [toKs_A]
    have hs := lost_succ (l := l) (ids := ids) (i := i) (by omega)
    refine ⟨(by first | omega | decide | (unfold I64; omega)), find_fun ex l _ hn hv, fun h3 => ⟨by omega, (by first | omega | decide | (unfold I64; omega)), round_end (i + 1) (by omega) ?_ (by dsimp only; omega)⟩, fun h3 => ⟨(by first | omega | decide | (unfold I64; omega)), round_end (i + 1) (by omega) ?_ (by dsimp only; omega)⟩⟩
    · rw [if_pos h3] at hs
      have hl : (lostN l ids i).length + 1 = (lostN l ids (i + 1)).length := by rw [hs]; simp
      exact ent_of [(2, 2), (27, 5)] rfl (tm_cons rfl (sm_ptr rfl) (tm_cons rfl (sm_sl (ex := false) (ex' := false) rfl hl (Nat.le_of_eq hl) (Nat.le_of_eq hl.symm) (by simp)) (tm_cons rfl (sm_same rfl) (tm_cons rfl (sm_same rfl) (tm_cons rfl (sm_same rfl) tm_nil))))) (hp_cons rfl rfl (sm_same rfl) (hp_cons rfl rfl (sm_arr' hl (fun k hk => by rw [hs]; exact int_row k hk)) hp_nil))
    · rw [if_neg (by rw [h3]; decide), List.append_nil] at hs
      rw [← hs]
      exact ent_of [(2, 2), (5, 5)] rfl (tm_cons rfl (sm_ptr rfl) (tm_cons rfl (sm_sl rfl rfl (Nat.le_refl _) (Nat.le_refl _) (fun h => ⟨h, rfl⟩)) (tm_cons rfl (sm_same rfl) (tm_cons rfl (sm_same rfl) (tm_cons rfl (sm_same rfl) tm_nil))))) (hp_cons rfl rfl (sm_same rfl) (hp_cons rfl rfl (sm_same rfl) hp_nil))
  · simp only [decide_eq_false_iff_not] at h
    obtain rfl : i = ids.length := by omega
    have e : lostN l ids ids.length = lostL l ids := by unfold lostN; rw [List.take_length]
    rw [e]
    refine post_frz [5] (post_tmp rfl (sm_dat' rfl (by simp) fun k hk => ?_))
    show AV.i ((lostL l ids).getD (0 + k) 0) = _
    rw [Nat.zero_add]
theorem rlost_fun (ex : Bool) (l : List Cv) (ey : Bool) (ids : List Int) (hn : l.length < 2 ^ 60) (hv : VL l) (hi : ids.length < 2 ^ 40) : Fun C P F_rlost [ksA ex l, iA ey ids] [] (iA false (lostL l ids)) [] := by
  refine in_rlost (W := w_rlost) rfl 0 (by simp) rfl (fun id h => absurd rfl h) fun D => ?_
  refine of_eq (rlost_A ex l ey ids 0 _) ?_
  refine loop_inv (W := w_rlost) ctx mixed ok_rlost_0 (I_rlo ex l ey ids) (fun i => i ≤ ids.length) (fun i => ids.length - i) 0 (Nat.zero_le _) ?_ fun i hi' => ?_
  · exact ent_of [(2, 2), (7, 5)] rfl (tm_cons rfl (sm_same rfl) (tm_cons rfl (sm_ptr rfl) (tm_cons rfl (sm_sl rfl rfl (Nat.le_refl _) (Nat.le_refl _) (by simp)) (tm_cons rfl (sm_same rfl) tm_nil)))) (hp_cons rfl rfl (sm_same rfl) (hp_cons rfl rfl (sm_row rfl rfl rfl (fun i x hx => by cases i <;> cases hx)) hp_nil))
  have hlen := lost_len l ids i
  have at_iff : ∀ x, (decide (atI l x < 0)) = !hasB l x := fun x => by
    unfold atI
    cases hasB l x with
    | true => rw [if_pos rfl]; simp
    | false => rfl
  refine of_eq (rlost_L0 ex l ey ids i 0 _) ⟨fun h => ?_, fun h => ?_⟩
  · simp only [decide_eq_true_eq] at h
    rw [toKs_A, at_iff]
    have hs := lost_succ (l := l) (ids := ids) (i := i) (by omega)
    refine ⟨(by first | omega | decide | (unfold I64; omega)), rfind_fun ex l _ hn hv, trivial, fun h3 => ⟨(by first | omega | decide | (unfold I64; omega)), by omega, (by first | omega | decide | (unfold I64; omega)), round_end (i + 1) (by omega) ?_ (by dsimp only; omega)⟩, fun h3 => ⟨(by first | omega | decide | (unfold I64; omega)), round_end (i + 1) (by omega) ?_ (by dsimp only; omega)⟩⟩
    · rw [if_pos h3] at hs
      have hl : (lostN l ids i).length + 1 = (lostN l ids (i + 1)).length := by rw [hs]; simp
      exact ent_of [(2, 2), (27, 5)] rfl (tm_cons rfl (sm_same rfl) (tm_cons rfl (sm_ptr rfl) (tm_cons rfl (sm_sl (ex := false) (ex' := false) rfl hl (Nat.le_of_eq hl) (Nat.le_of_eq hl.symm) (by simp)) (tm_cons rfl (sm_same rfl) tm_nil)))) (hp_cons rfl rfl (sm_same rfl) (hp_cons rfl rfl (sm_arr' hl (fun k hk => by rw [hs]; exact int_row k hk)) hp_nil))
    · rw [if_neg (by rw [h3]; decide), List.append_nil] at hs
      rw [← hs]
      exact ent_of [(2, 2), (5, 5)] rfl (tm_cons rfl (sm_same rfl) (tm_cons rfl (sm_ptr rfl) (tm_cons rfl (sm_sl rfl rfl (Nat.le_refl _) (Nat.le_refl _) (fun h => ⟨h, rfl⟩)) (tm_cons rfl (sm_same rfl) tm_nil)))) (hp_cons rfl rfl (sm_same rfl) (hp_cons rfl rfl (sm_same rfl) hp_nil))
  · simp only [decide_eq_false_iff_not] at h
    obtain rfl : i = ids.length := by omega
    have e : lostN l ids ids.length = lostL l ids := by unfold lostN; rw [List.take_length]
    rw [e]
    refine post_frz [5] (post_tmp rfl (sm_dat' rfl (by simp) fun k hk => ?_))
    show AV.i ((lostL l ids).getD (0 + k) 0) = _
    rw [Nat.zero_add]
theorem ints_fun (ex : Bool) (l : List Int) (ey : Bool) (q : List Int) (hn : l.length < 2 ^ 60) : Fun C P F_ints [iA ex l, iA ey q] [] (.sb (intsB l q)) [] := by
  refine in_ints (W := w_ints) rfl 0 (by simp) rfl (fun id h => absurd rfl h) fun D => ?_
  refine of_eq (ints_A ex l ey q 0 _) ⟨fun h => ?_, fun h => ?_⟩
  · refine post_tmp rfl (sm_b ?_)
    have : l ≠ q := fun e => by subst e; simp at h
    unfold intsB; rw [decide_eq_false this]
  have hl : l.length = q.length := by
    have : ((l.length : Nat) : Int) = q.length := by simpa using h
    omega
  refine loop_inv (W := w_ints) ctx mixed ok_ints_0 (I_in ex l ey q) (fun i => i ≤ l.length ∧ ∀ k, k < i → l.getD k 0 = q.getD k 0) (fun i => l.length - i) 0 ⟨Nat.zero_le _, fun k hk => absurd hk (Nat.not_lt_zero k)⟩ ?_ fun i hi => ?_
  · exact ent_of [] rfl (tm_cons rfl (sm_same rfl) (tm_cons rfl (sm_same rfl) (tm_cons rfl (sm_same rfl) tm_nil))) hp_nil
  obtain ⟨h1, h2⟩ := hi
  refine of_eq (ints_L0 ex l ey q i 0 _) ⟨fun h => ?_, fun h => ?_⟩
  · simp only [decide_eq_true_eq] at h
    refine ⟨(by first | omega | decide | (unfold I64; omega)), by omega, fun h3 => ?_, fun h3 => ⟨(by first | omega | decide | (unfold I64; omega)), round_end (i + 1) ⟨by omega, fun k hk => ?_⟩ (ent_of [] rfl (tm_cons rfl (sm_same rfl) (tm_cons rfl (sm_same rfl) (tm_cons rfl (sm_same rfl) tm_nil))) hp_nil) (by dsimp only; omega)⟩⟩
    · refine post_tmp rfl (sm_b ?_)
      have : l ≠ q := fun e => by subst e; simp at h3
      unfold intsB; rw [decide_eq_false this]
    · by_cases e : k = i
      · rw [e]; simpa using h3
      · exact h2 k (by omega)
  · simp only [decide_eq_false_iff_not] at h
    refine post_tmp rfl (sm_b ?_)
    have : l = q := by
      apply List.ext_getElem hl
      intro k hk hk'
      have := h2 k (by omega)
      simpa [List.getD_eq_getElem?_getD, hk, hk'] using this
    unfold intsB; rw [decide_eq_true this]
theorem rsame_fun (ex : Bool) (l : List Cv) (ey : Bool) (q : List Cv) (hn : l.length < 2 ^ 60) : Fun C P F_rsame [ksA ex l, ksA ey q] [] (.sb (sameL l q)) [] := by
  refine in_rsame (W := w_rsame) rfl 0 (by simp) rfl (fun id h => absurd rfl h) fun D => ?_
  have hA := rsame_A ex l ey q (D := D) 0 (FunPost C 31 0 [.tmp 4] (.sb (sameL l q)) [])
  refine of_eq hA ?_
  clear hA
  refine ⟨fun h => ?_, fun h => ?_⟩
  · refine post_tmp rfl (sm_b ?_)
    have : l.length ≠ q.length := fun e => by rw [e] at h; simp at h
    unfold sameL; rw [decide_eq_false this]; rfl
  have hl : l.length = q.length := by
    have : ((l.length : Nat) : Int) = q.length := by simpa using h
    omega
  refine loop_inv (W := w_rsame) ctx mixed ok_rsame_0 (I_sa ex l ey q) (fun i => i ≤ l.length ∧ ∀ k, k < i → eqC (cAt l k) (cAt q k) = true) (fun i => l.length - i) 0 ⟨Nat.zero_le _, fun k hk => absurd hk (Nat.not_lt_zero k)⟩ ?_ fun i hi => ?_
  · exact ent_of [(2, 2), (3, 3)] rfl (tm_cons rfl (sm_ptr rfl) (tm_cons rfl (sm_ptr rfl) (tm_cons rfl (sm_same rfl) tm_nil))) (hp_cons rfl rfl (sm_same rfl) (hp_cons rfl rfl (sm_same rfl) hp_nil))
  obtain ⟨h1, h2⟩ := hi
  refine of_eq (rsame_L0 ex l ey q i 0 _) ⟨fun h => ?_, fun h => ?_⟩
  · simp only [decide_eq_true_eq] at h
    refine ⟨(by first | omega | decide | (unfold I64; omega)), by omega, fun _ _ => ⟨rfl, rfl⟩, fun h3 => ?_, fun h3 => ⟨(by first | omega | decide | (unfold I64; omega)), round_end (i + 1) ⟨by omega, fun k hk => ?_⟩ (ent_of [(2, 2), (3, 3)] rfl (tm_cons rfl (sm_ptr rfl) (tm_cons rfl (sm_ptr rfl) (tm_cons rfl (sm_same rfl) tm_nil))) (hp_cons rfl rfl (sm_same rfl) (hp_cons rfl rfl (sm_same rfl) hp_nil))) (by dsimp only; omega)⟩⟩
    · refine post_tmp rfl (sm_b ?_)
      unfold sameL
      have : ((List.range l.length).all fun i => eqC (cAt l i) (cAt q i)) = false := Bool.eq_false_iff.2 fun hh => by
        have := List.all_eq_true.1 hh i (List.mem_range.2 (by omega))
        exact nt_no this h3
      rw [this, Bool.and_false]
    · by_cases e : k = i
      · rw [e]; exact bnf h3
      · exact h2 k (by omega)
  · simp only [decide_eq_false_iff_not] at h
    refine post_tmp rfl (sm_b ?_)
    unfold sameL
    have : ((List.range l.length).all fun i => eqC (cAt l i) (cAt q i)) = true := List.all_eq_true.2 fun k hk => h2 k (by have := List.mem_range.1 hk; omega)
    rw [this, decide_eq_true hl]; rfl
theorem eqC_refl (c : Cv) : eqC c c = true := by unfold eqC; simp
theorem sameL_refl (l : List Cv) : sameL l l = true := by
  unfold sameL
  simp [eqC_refl]
theorem wrap8_nat (z : Int) : ((IntKind.wrap .u8 z).toNat : Int) = IntKind.wrap .u8 z ∧ (IntKind.wrap .u8 z).toNat < 256 := by
  have h : IntKind.wrap .u8 z = z % 256 := by simp [IntKind.wrap, IntKind.bits, IntKind.signed]
  rw [h]
  have := Int.emod_nonneg z (show (256 : Int) ≠ 0 by decide)
  have := Int.emod_lt_of_pos z (show (0 : Int) < 256 by decide)
  omega
theorem byt_succ {l : List Cv} {i : Nat} (hi : i < l.length) : bytN l (i + 1) = bytN l i ++ cvB (cAt l i) := by
  unfold bytN bytesK
  rw [take_step (d := c0) hi, List.flatMap_append]
  simp [cAt]
theorem cvB_len (c : Cv) : (cvB c).length = 35 := by simp [cvB]
theorem byt_len (l : List Cv) : ∀ i, i ≤ l.length → (bytN l i).length = 35 * i
  | 0, _ => by simp [bytN, bytesK]
  | i + 1, hi => by rw [byt_succ (by omega), List.length_append, byt_len l i (by omega), cvB_len]; omega
theorem byt_row {b : List Nat} {c : Cv} (k : Nat) (hk : k < b.length + 3 + 32) :
    cat (b.length + 3) (fun i1 => cat b.length (fun i2 => rowL b (0 + i2)) (fun i2 => nthD [AV.v (Value.int IntKind.u8 (IntKind.wrap IntKind.u8 c.d)), AV.v (Value.int IntKind.u8 (IntKind.wrap IntKind.u8 (bShr .i64 c.a 8))), AV.v (Value.int IntKind.u8 (IntKind.wrap IntKind.u8 c.a))] (0 + i2) (AV.v (Value.tuple (List.toArray [])))) (0 + i1))
      (fun i1 => u8 (c.k (0 + i1))) k = rowL (b ++ cvB c) k := by
  show _ = u8 ((b ++ cvB c).getD k 0)
  rw [getD_append]
  unfold cat
  simp only [Nat.zero_add]
  by_cases e1 : k < b.length
  · rw [if_pos (by omega), if_pos e1, if_pos e1]; rfl
  · rw [if_neg e1]
    by_cases e2 : k < b.length + 3
    · rw [if_pos e2, if_neg e1]
      have h3 : k - b.length = 0 ∨ k - b.length = 1 ∨ k - b.length = 2 := by omega
      rcases h3 with h3 | h3 | h3 <;> rw [h3]
      · exact congrArg (fun z => AV.v (Value.int IntKind.u8 z)) (wrap8_nat _).1.symm
      · exact congrArg (fun z => AV.v (Value.int IntKind.u8 z)) (wrap8_nat _).1.symm
      · exact congrArg (fun z => AV.v (Value.int IntKind.u8 z)) (wrap8_nat _).1.symm
    · rw [if_neg e2, if_neg e1]
      have : (cvB c).getD (k - b.length) 0 = c.k (k - (b.length + 3)) := by
        unfold cvB
        rw [getD_append, if_neg (by simp; omega)]
        simp only [List.length_cons, List.length_nil]
        rw [List.getD_eq_getElem?_getD, List.getElem?_map, List.getElem?_range (by omega)]
        show c.k _ = _
        congr 1
      rw [this]
theorem kbytes_fun (ex : Bool) (l : List Cv) (hn : l.length < 2 ^ 40) : Fun C P F_kbytes [ksA ex l] [] (rowB (bytesK l)) [] := by
  refine in_kbytes (W := w_kbytes) rfl 0 (by simp) rfl (fun id h => absurd rfl h) fun D => ?_
  refine of_eq (kbytes_A ex l 0 _) ?_
  refine loop_inv (W := w_kbytes) ctx mixed ok_kbytes_0 (I_by ex l) (fun i => i ≤ l.length) (fun i => l.length - i) 0 (Nat.zero_le _) ?_ fun i hi => ?_
  · exact ent_of [(1, 1)] rfl (tm_cons rfl (sm_ptr rfl) (tm_cons rfl (sm_nil rfl rfl) (tm_cons rfl (sm_same rfl) (tm_cons rfl (sm_same rfl) (tm_cons rfl (sm_same rfl) tm_nil))))) (hp_cons rfl rfl (sm_same rfl) (hp_new rfl rfl hp_nil))
  have hlen := byt_len l i hi
  refine of_eq (kbytes_L0 ex l i 0 _) ⟨fun h => ?_, fun h => ?_⟩
  · simp only [decide_eq_true_eq] at h
    have hs := byt_succ (l := l) (i := i) (by omega)
    have hl : (bytN l i).length + 3 + 32 = (bytN l (i + 1)).length := by rw [hs, List.length_append, cvB_len]
    refine ⟨(by first | omega | decide | (unfold I64; omega)), shC_t, by decide, by omega, (by first | omega | decide | (unfold I64; omega)), by omega, (by first | omega | decide | (unfold I64; omega)), round_end (i + 1) (by omega) ?_ (by dsimp only; omega)⟩
    exact ent_of [(1, 1), (29, 3)] rfl (tm_cons rfl (sm_ptr rfl) (tm_cons rfl (sm_sl (ex := false) (ex' := false) rfl hl (Nat.le_of_eq hl) (Nat.le_of_eq hl.symm) (by simp)) (tm_cons rfl (sm_same rfl) (tm_cons rfl (sm_same rfl) (tm_cons rfl (sm_same rfl) tm_nil))))) (hp_cons rfl rfl (sm_same rfl) (hp_cons rfl rfl (sm_arr' hl (fun k hk => by rw [hs]; exact byt_row k hk)) hp_nil))
  · simp only [decide_eq_false_iff_not] at h
    obtain rfl : i = l.length := by omega
    have e : bytN l l.length = bytesK l := by unfold bytN; rw [List.take_length]
    rw [e]
    refine post_frz [3] (post_tmp rfl (sm_dat' rfl (by simp) fun k hk => ?_))
    show rowL (bytesK l) (0 + k) = _
    rw [Nat.zero_add]
theorem rkbytes_fun (ex : Bool) (l : List Cv) (hn : l.length < 2 ^ 40) : Fun C P F_rkbytes [ksA ex l] [] (rowB (bytesK l)) [] := by
  refine in_rkbytes (W := w_rkbytes) rfl 0 (by simp) rfl (fun id h => absurd rfl h) fun D => ?_
  refine of_eq (rkbytes_A ex l 0 _) ?_
  refine loop_inv (W := w_rkbytes) ctx mixed ok_rkbytes_0 (I_rby ex l) (fun i => i ≤ l.length) (fun i => l.length - i) 0 (Nat.zero_le _) ?_ fun i hi => ?_
  · exact ent_of [(1, 1), (6, 3)] rfl (tm_cons rfl (sm_ptr rfl) (tm_cons rfl (sm_sl rfl rfl (Nat.le_refl _) (Nat.le_refl _) (by simp)) (tm_cons rfl (sm_same rfl) tm_nil))) (hp_cons rfl rfl (sm_same rfl) (hp_cons rfl rfl (sm_row rfl rfl rfl (fun i x hx => by cases i <;> cases hx)) hp_nil))
  have hlen := byt_len l i hi
  refine of_eq (rkbytes_L0 ex l i 0 _) ⟨fun h => ?_, fun h => ?_⟩
  · simp only [decide_eq_true_eq] at h
    have hs := byt_succ (l := l) (i := i) (by omega)
    have hl : (bytN l i).length + 3 + 32 = (bytN l (i + 1)).length := by rw [hs, List.length_append, cvB_len]
    refine ⟨(by first | omega | decide | (unfold I64; omega)), shC_t, by decide, by omega, (by first | omega | decide | (unfold I64; omega)), by omega, (by first | omega | decide | (unfold I64; omega)), round_end (i + 1) (by omega) ?_ (by dsimp only; omega)⟩
    exact ent_of [(1, 1), (35, 3)] rfl (tm_cons rfl (sm_ptr rfl) (tm_cons rfl (sm_sl (ex := false) (ex' := false) rfl hl (Nat.le_of_eq hl) (Nat.le_of_eq hl.symm) (by simp)) (tm_cons rfl (sm_same rfl) tm_nil))) (hp_cons rfl rfl (sm_same rfl) (hp_cons rfl rfl (sm_arr' hl (fun k hk => by rw [hs]; exact byt_row k hk)) hp_nil))
  · simp only [decide_eq_false_iff_not] at h
    obtain rfl : i = l.length := by omega
    have e : bytN l l.length = bytesK l := by unfold bytN; rw [List.take_length]
    rw [e]
    refine post_frz [3] (post_tmp rfl (sm_dat' rfl (by simp) fun k hk => ?_))
    show rowL (bytesK l) (0 + k) = _
    rw [Nat.zero_add]
theorem seed_ok (s : Nat) : SmF (seedK s) := fun i _ => sumN_lt _ _
theorem KV_desL {s : Nat → Nat} (hs : SmF s) (D : List Int) {id : Int} (h : inR id = true) : desL (KV s D) id = KV s (id :: D) := by
  unfold desL
  rw [KV_has hs, h]
  cases hx : inX D id with
  | false => exact KV_des hs D h
  | true =>
    refine KV_congr hs D fun j _ _ => ?_
    have : id ∈ D := of_decide_eq_true hx
    constructor
    · exact fun hj => List.mem_cons_of_mem _ hj
    · intro hj; rcases List.mem_cons.1 hj with rfl | hj <;> assumption
set_option maxRecDepth 1000000 in
theorem tmod4096 (n : Nat) : Int.tmod (n : Int) 4096 = ((n % 4096 : Nat) : Int) := by
  rw [Int.tmod_eq_emod_of_nonneg (by omega)]; omega
theorem inR_mod (n : Nat) : inR ((n % 4096 : Nat) : Int) = true := by simp [inR]; omega
set_option maxRecDepth 1000000 in
theorem gone_succ {ids : List Nat} {i : Nat} (hi : i < ids.length) (h : i < 12) : goneD (ids.take (i + 1)) = ((ids.getD i 0 % 4096 : Nat) : Int) :: goneD (ids.take i) := by
  unfold goneD
  rw [List.take_take, List.take_take, Nat.min_eq_right (by omega), Nat.min_eq_right (by omega), take_step (d := 0) hi, List.map_append, List.reverse_append]
  rfl
set_option maxRecDepth 1000000 in
theorem made_fun (s : Nat) (hs : s < 256) (ex : Bool) (ids : List Nat) (hi : ∀ i, i < ids.length → ids.getD i 0 < 65536) : Fun C P F_made [u8 s, u16A ex ids] [] (ksA false (KV (seedK s) (goneD ids))) [] := by
  refine in_made (W := w_made) rfl 0 (by simp) rfl (fun id h => absurd rfl h) fun D => ?_
  refine of_eq (made_A s ex ids 0 _) ?_
  have hb : B8 1 (fun (i : Nat) => (nthD [(AV.v (Value.int IntKind.u8 ((s : Nat) : Int)))] (0 + i) (AV.v (Value.tuple (List.toArray []))))) := fun i hi => by
    obtain rfl : i = 0 := by omega
    exact ⟨rfl, hs⟩
  refine ⟨rsum_call (ex := false) hb (.inr rfl) (by decide), fun _ _ => trivial, rnew_fun _, ⟨⟨rfl, rfl⟩, trivial⟩, loop_inv (W := w_made) ctx mixed ok_made_0 (I_ma s ex ids) (fun i => i ≤ ids.length ∧ i ≤ 12) (fun i => 12 - i) 0 ⟨Nat.zero_le _, Nat.zero_le _⟩ ?_ fun i hi' => ?_⟩
  · have e : newL (sumN [s]) = madeN s ids 0 := by rw [newL_KV]; rfl
    rw [e]
    exact ent_of [(4, 4), (5, 5)] rfl (tm_cons rfl (sm_same rfl) (tm_cons rfl (sm_ptr rfl) (tm_cons rfl (sm_ptr rfl) (tm_cons rfl (sm_same rfl) tm_nil)))) (hp_cons rfl rfl (sm_same rfl) (hp_cons rfl rfl (sm_same rfl) hp_nil))
  obtain ⟨h1, h2⟩ := hi'
  have fin : (i = ids.length ∨ i = 12) → madeN s ids i = KV (seedK s) (goneD ids) := fun h => by
    unfold madeN goneD
    rcases h with rfl | rfl
    · rw [List.take_length]
    · rw [List.take_take]; rfl
  refine of_eq (made_L0 s ex ids i 0 _) ⟨fun h => ⟨fun h3 => ?_, fun h3 => ?_⟩, fun h => ?_⟩
  · simp only [decide_eq_true_eq] at h h3
    have hlt : i < ids.length := by omega
    have hu := hi i hlt
    rw [toKs_A, tmod4096]
    have hl := KV_len (seed_ok s) (goneD (ids.take i))
    have hd := KV_desL (seed_ok s) (goneD (ids.take i)) (inR_mod (ids.getD i 0))
    refine ⟨(by first | omega | decide | (unfold I64; omega)), (by first | omega | decide | (unfold I64; omega)), by decide, rdestroy_fun false _ _ (by unfold madeN; omega) (KV_ok (seed_ok s) _), ⟨⟨rfl, rfl⟩, trivial⟩, (by first | omega | decide | (unfold I64; omega)), round_end (i + 1) ⟨by omega, by omega⟩ ?_ (by dsimp only; omega)⟩
    have e : desL (madeN s ids i) ((ids.getD i 0 % 4096 : Nat) : Int) = madeN s ids (i + 1) := by
      unfold madeN
      rw [hd, gone_succ hlt (by omega)]
    rw [e]
    exact ent_of [(4, 4), (5, 5)] rfl (tm_cons rfl (sm_same rfl) (tm_cons rfl (sm_ptr rfl) (tm_cons rfl (sm_ptr rfl) (tm_cons rfl (sm_same rfl) tm_nil)))) (hp_cons rfl rfl (sm_same rfl) (hp_cons rfl rfl (sm_same rfl) hp_nil))
  · simp only [decide_eq_false_iff_not] at h3
    rw [fin (.inr (by omega))]
    exact ⟨⟨⟨rfl, rfl⟩, trivial⟩, post_cell rfl rfl (sm_same rfl) rfl⟩
  · simp only [decide_eq_false_iff_not] at h
    rw [fin (.inl (by omega))]
    exact ⟨⟨⟨rfl, rfl⟩, trivial⟩, post_cell rfl rfl (sm_same rfl) rfl⟩
end Go.Bu.W

namespace Go.Bu.W
open Sp
def itemD (d : Nat → Nat) : Cv := ⟨(d 0 : Int), ((256 * d 1 + d 2 : Nat) : Int), fun i => d (3 + i)⟩
def itemAt (b : List Nat) (j : Nat) : Cv := itemD fun i => b.getD (35 * j + i) 0
def itemsN (b : List Nat) (n : Nat) : List Cv := (List.range n).map (itemAt b)
def parsL (b : List Nat) : List Cv := if b.length % 35 = 0 ∧ validB (itemsN b (b.length / 35)) = true then itemsN b (b.length / 35) else []
def parsE (b : List Nat) : Int := if b.length % 35 = 0 ∧ validB (itemsN b (b.length / 35)) = true then 0 else 3
def snocP (m : Nat) (g f : Nat → AV) : List Cv := rowCs m g ++ [itemD (dN f)]
def crYP : List AV → List (Nat × Blk) → Option (AV × List (Nat × Blk))
  | [.dat _ _ _ f], [(0, .c (.st [.sl 1 [] 0 _ _ _ _])), (1, .c (.arr m _ g))] => some (.v (.bool true), [(0, .c (.st [slK 2 (snocP m g f)])), (2, .c (arK (snocP m g f)))])
  | _, _ => none
def crChunk : List AV → Option (AV × List (Nat × Blk))
  | [x, i] => some (.fn (.func 60) [.ptr 0 [], .ptr 1 []], [(0, .c x), (1, .c (.i (asI i)))])
  | _ => none
def crParse : List AV → Option (AV × List (Nat × Blk))
  | [.dat n _ _ f] => some (.tup [ksA false (parsL (bytesL n f)), .i (parsE (bytesL n f))], [])
  | _ => none
def crRParse : List AV → Option (AV × List (Nat × Blk))
  | [.dat n _ _ f] => some (.st [ksA false (parsL (bytesL n f)), .i (parsE (bytesL n f))], [])
  | _ => none
def crS7 (g : Nat) (args : List AV) (H : List (Nat × Blk)) : Option (AV × List (Nat × Blk)) :=
  sel (Nat.beq g F_chunk) (crChunk args) <| sel (Nat.beq g F_parse) (crParse args) <| sel (Nat.beq g F_rparse) (crRParse args) <| crS6 g args H
def wayP (keep : List Nat) (nt : Nat) (cuts : List Nat) : Way := ⟨crS7, fun _ => false, keep, [], nt, cuts, []⟩
def wayYP (keep : List Nat) (nt : Nat) (cuts : List Nat) : Way := ⟨fun g args H => sel (Nat.beq g 1000000) (crYP args H) none, fun _ => false, keep, [], nt, cuts, [2, 6]⟩
def w_chunk : Way := wayP [0, 1, 2, 3, 4, 6] 9 []
def w_parse : Way := wayP [0, 2, 3, 4, 5, 9, 12, 13, 40] 43 []
def w_rparse : Way := wayP [0, 2, 3, 4, 5, 6, 11, 16, 40, 61] 65 []
def w_chunk1 : Way := wayYP [0, 1, 2, 4, 5, 9, 30] 31 [4]
abbrev dB (ex : Bool) (b : List Nat) : AV := .dat b.length ex 1 (rowL b)
abbrev zT : AV := .dat 0 true 0 (fun _ => .v (.tuple #[]))
def memP (ex : Bool) (b : List Nat) (p : Nat) (l : List Cv) : List (Nat × Blk) := [(0, .c (dB ex b)), (1, .c (.i 35)), (2, .c (.st [slK p l])), (p, .c (arK l))]
def I_ck (ex : Bool) (b : List Nat) (l j : Nat) : St := { tm := [(0, ryld l), (1, .ptr 0 []), (2, .ptr 1 []), (4, .i (35 * j : Nat))], hp := memP ex b 6 (itemsN b j), seen := [0, 1, 2, 6] }
def S_ck4 (ex : Bool) (b : List Nat) (l j : Nat) : St := { tm := [(0, ryld l), (1, .ptr 0 []), (2, .ptr 1 []), (4, .i (35 * j : Nat)), (5, .i 35)], hp := memP ex b 6 (itemsN b j), seen := [0, 1, 2, 6] }
def tmPar : List (Nat × AV) := [(4, .ptr 2 []), (12, .fn (.func 60) [.ptr 0 [], .ptr 1 []])]
def S_par1 (ex : Bool) (b : List Nat) : St := { tm := [(2, .ptr 2 []), (4, .ptr 4 []), (12, .fn (.func 60) [.ptr 12 [], .ptr 1012 []])], hp := [(2, .c (.st [zT])), (4, .c (.st [slK 100 []])), (12, .c (dB ex b)), (100, .c (arK [])), (1012, .c (.i 35))], seen := [2, 4, 12, 100, 1012] }
def S_parb (d : Nat → Nat) (l : List Cv) : St := { tm := parTm [13] [.dat 35 true 1 (fun i => u8 (d i))] (tmIn (posIn [(0, .c (.st [slK 1 l])), (1, .c (arK l))] [2, 6]) tmPar), hp := [(0, .c (.st [slK 1 l])), (1, .c (arK l))], seen := [0, 1] }
def S_parr (l : List Cv) : St := { tm := [(2, .ptr 2 []), (4, .ptr 4 [])], hp := [(2, .c (.st [zT])), (4, .c (.st [kA false l]))], seen := [2, 4] }
def I_rp (ex : Bool) (b : List Nat) (j : Nat) : St := { tm := [(0, dB ex b), (2, .ptr 2 []), (3, .ptr 3 []), (4, .i (35 * j : Nat))], hp := [(2, .c (.st [.st [zT], .i 0])), (3, .c (.st [slK 9 (itemsN b j)])), (9, .c (arK (itemsN b j)))], seen := [2, 3, 9] }
def keyTo (d : Nat → Nat) (m i : Nat) : Nat := if i < m then d (3 + i) else 0
def I_rp1 (ex : Bool) (b : List Nat) (j m : Nat) : St := { tm := [(0, dB ex b), (2, .ptr 2 []), (3, .ptr 3 []), (4, .i (35 * j : Nat)), (5, .ptr 5 []), (6, .i m)], hp := [(2, .c (.st [.st [zT], .i 0])), (3, .c (.st [slK 9 (itemsN b j)])), (5, .c (.st [.i (itemAt b j).d, .i (itemAt b j).a, .arr 32 1 (fun i => u8 (keyTo (fun i => b.getD (35 * j + i) 0) m i))])), (9, .c (arK (itemsN b j)))], seen := [2, 3, 5, 9] }
def S_rpr (ex : Bool) (b : List Nat) (l : List Cv) : St := { tm := [(0, dB ex b), (2, .ptr 2 []), (3, .ptr 3 [])], hp := [(2, .c (.st [.st [zT], .i 0])), (3, .c (.st [kA false l]))], seen := [2, 3] }

theorem chunk_A (ex : Bool) (b : List Nat) {D : Dom} (K : Nat) (Φ : Ex → St → Prop) :
  (Holds C P 9 D K Φ (vc C w_chunk b_chunk [] (start [dB ex b, .i 35] []) lf)) =
  ((false = true →
 (Holds W.C W.P 9 D K Φ (VC.fail 5))) ∧
 (false = false →
 (Φ Ex.ret (St.mk [(0, (AV.dat (List.length b) ex 1 (rowL b))), (1, (AV.i (35 : Int))), (2, (AV.ptr 2 [])), (3, (AV.ptr 3 [])), (4, (AV.fn (Fn.func 60) [(AV.ptr 2 []), (AV.ptr 3 [])])), (6, (AV.v (Value.bool false)))] [(2, (Blk.c (AV.dat (List.length b) ex 1 (rowL b)))), (3, (Blk.c (AV.i (35 : Int))))] [3, 2])))) := by kernel_rfl
theorem chunk1_A (ex : Bool) (b : List Nat) (l : Nat) {D : Dom} (K : Nat) (Φ : Ex → St → Prop) :
  (Holds C P 31 D K Φ (vc C w_chunk1 b_chunk1 [] (start [ryld l, .ptr 0 [], .ptr 1 []] (memP ex b 3 [])) lf)) =
  (LoopOK W.C W.P 31 D K (bodyAt b_chunk1 [1, 0]) (St.mk [(0, (AV.v (Value.func (Fn.yield l) (List.toArray []) (List.toArray [])))), (1, (AV.ptr 0 [])), (2, (AV.ptr 1 [])), (4, (AV.i (0 : Int)))] [(0, (Blk.c (AV.dat (List.length b) ex 1 (rowL b)))), (1, (Blk.c (AV.i (35 : Int)))), (2, (Blk.c (AV.st [(AV.sl 3 [] 0 0 0 false 34)]))), (3, (Blk.c (AV.arr 0 34 (W.rowK ([] : List Cv)))))] [0, 1, 2, 3]) (fun (e : Ex) (S' : St) => Holds W.C W.P 31 D K Φ (after W.C w_chunk1 b_chunk1 [1, 0] [] lf e S'))) := by kernel_rfl
noncomputable abbrev bd_chunk1_0 : Code := bodyAt (b_chunk1) [1, 0]
theorem ok_chunk1_0 : codeOK bd_chunk1_0 = true := by kernel_rfl
noncomputable abbrev rest_chunk1_0 (D : Dom) (K : Nat) (Φ : Ex → St → Prop) : Ex → St → Prop := fun e S' => Holds C P 31 D K Φ (after C w_chunk1 (b_chunk1) [1, 0] [] lf e S')
theorem chunk1_L0 (ex : Bool) (b : List Nat) (l j : Nat) {D : Dom} (K : Nat) (Φ : Ex → St → Prop) :
  (Holds C P 31 D K (RoundQ C 31 D K (I_ck ex b l) (fun j => 35 * j ≤ b.length) (fun j => b.length + 1 - 35 * j) ((fun j => b.length + 1 - 35 * j) (j)) (rest_chunk1_0 D K Φ)) (vc C w_chunk1 bd_chunk1_0 [] ((I_ck ex b l) (j)) lf)) =
  (((decide ((((35 * j) : Nat) : Int) < (((List.length b) : Nat) : Int))) = true →
 ((((0 : Int) ≤ (((35 * j) : Nat) : Int)) ∧ (((((35 * j) : Nat) : Int) ≤ (((List.length b) : Nat) : Int)) ∧ ((((List.length b) : Nat) : Int) ≤ (((List.length b) : Nat) : Int)))) ∧
  (∃ (S2 : St), Ent W.C 31 D K (St.mk [(0, (AV.v (Value.func (Fn.yield l) (List.toArray []) (List.toArray [])))), (1, (AV.ptr 0 [])), (2, (AV.ptr 1 [])), (4, (AV.i (((35 * j) : Nat) : Int))), (5, (AV.i (Min.min (35 : Int) ((((List.length b) - (35 * j)) : Nat) : Int)))), (9, (AV.v (Value.bool true)))] [(0, (Blk.c (AV.dat (List.length b) ex 1 (rowL b)))), (1, (Blk.c (AV.i (35 : Int)))), (2, (Blk.c (AV.st [(W.slK 6 (W.itemsN b j))]))), (6, (Blk.c (W.arK (W.itemsN b j))))] [0, 1, 2, 6]) S2 ∧ Holds W.C W.P 31 D K (RoundQ C 31 D K (I_ck ex b l) (fun j => 35 * j ≤ b.length) (fun j => b.length + 1 - 35 * j) ((fun j => b.length + 1 - 35 * j) (j)) (rest_chunk1_0 D K Φ)) (cutAt W.C w_chunk1 bd_chunk1_0 [1, 0, 0, 1, 0] S2 (after W.C w_chunk1 bd_chunk1_0 [1, 0, 0, 1, 0] [] lf))))) ∧
 ((decide ((((35 * j) : Nat) : Int) < (((List.length b) : Nat) : Int))) = false →
 (Φ Ex.normal (St.mk [(0, (AV.v (Value.func (Fn.yield l) (List.toArray []) (List.toArray [])))), (1, (AV.ptr 0 [])), (2, (AV.ptr 1 [])), (4, (AV.i (((35 * j) : Nat) : Int))), (9, (AV.v (Value.bool false)))] [(0, (Blk.c (AV.dat (List.length b) ex 1 (rowL b)))), (1, (Blk.c (AV.i (35 : Int)))), (2, (Blk.c (AV.st [(W.slK 6 (W.itemsN b j))]))), (6, (Blk.c (W.arK (W.itemsN b j))))] [0, 1, 2, 6])))) := by kernel_rfl
theorem chunk1_C4 (ex : Bool) (b : List Nat) (l j : Nat) {D : Dom} (K : Nat) (Φ : Ex → St → Prop) :
  (Holds C P 31 D K Φ (cutAt C w_chunk1 bd_chunk1_0 [1, 0, 0, 1, 0] (S_ck4 ex b l j) (after C w_chunk1 bd_chunk1_0 [1, 0, 0, 1, 0] [] lf))) =
  ((I64 ((((35 * j) + 35) : Nat) : Int)) ∧
 ((I64 ((((35 * j) + 35) : Nat) : Int)) ∧
 ((((0 : Int) ≤ (((35 * j) : Nat) : Int)) ∧ (((((35 * j) : Nat) : Int) ≤ ((((35 * j) + 35) : Nat) : Int)) ∧ ((((((35 * j) + 35) : Nat) : Int) = ((((35 * j) + 35) : Nat) : Int)) ∧ (((((35 * j) + 35) : Nat) : Int) ≤ (((List.length b) : Nat) : Int))))) ∧
 (YFun W.C W.P D [2, 6] l [(AV.dat (((35 * j) + 35) - (35 * j)) true 1 (fun (i : Nat) => (AV.v (Value.int IntKind.u8 (((List.getD b ((35 * j) + i) 0) : Nat) : Int)))))] [(0, (Blk.c (AV.st [(W.slK 1 (W.itemsN b j))]))), (1, (Blk.c (W.arK (W.itemsN b j))))] (AV.v (Value.bool true)) [(0, (Blk.c (AV.st [(W.slK 2 (W.snocP (List.length (W.itemsN b j)) (W.rowK (W.itemsN b j)) (fun (i : Nat) => (AV.v (Value.int IntKind.u8 (((List.getD b ((35 * j) + i) 0) : Nat) : Int))))))]))), (2, (Blk.c (W.arK (W.snocP (List.length (W.itemsN b j)) (W.rowK (W.itemsN b j)) (fun (i : Nat) => (AV.v (Value.int IntKind.u8 (((List.getD b ((35 * j) + i) 0) : Nat) : Int))))))))] ∧
 ((I64 ((((35 * j) + 35) : Nat) : Int)) ∧
 (Φ Ex.normal (St.mk [(0, (AV.v (Value.func (Fn.yield l) (List.toArray []) (List.toArray [])))), (1, (AV.ptr 0 [])), (2, (AV.ptr 1 [])), (4, (AV.i ((((35 * j) + 35) : Nat) : Int))), (5, (AV.i (35 : Int))), (30, (AV.v (Value.bool false)))] [(0, (Blk.c (AV.dat (List.length b) ex 1 (rowL b)))), (1, (Blk.c (AV.i (35 : Int)))), (2, (Blk.c (AV.st [(W.slK 29 (W.snocP (List.length (W.itemsN b j)) (W.rowK (W.itemsN b j)) (fun (i : Nat) => (AV.v (Value.int IntKind.u8 (((List.getD b ((35 * j) + i) 0) : Nat) : Int))))))]))), (29, (Blk.c (W.arK (W.snocP (List.length (W.itemsN b j)) (W.rowK (W.itemsN b j)) (fun (i : Nat) => (AV.v (Value.int IntKind.u8 (((List.getD b ((35 * j) + i) 0) : Nat) : Int))))))))] [29, 0, 1, 2, 6]))))))) := by kernel_rfl
theorem parse_A (ex : Bool) (b : List Nat) {D : Dom} (K : Nat) (Φ : Ex → St → Prop) :
  (Holds C P 43 D K Φ (vc C w_parse b_parse [] (start [dB ex b] []) lf)) =
  (((35 : Int) ≠ (0 : Int)) ∧
 (((((((List.length b) % 35) : Nat) : Int) != (0 : Int)) = true →
 ((((true = true) ∧ (true = true)) ∧ True) ∧
  (Φ Ex.ret (St.mk [(0, (AV.dat (List.length b) ex 1 (rowL b))), (2, (AV.ptr 2 [])), (3, (AV.i (3 : Int))), (9, (AV.v (Value.bool true)))] [(2, (Blk.c (AV.st [(AV.dat 0 true 0 (fun (x : Nat) => (AV.v (Value.tuple (List.toArray [])))))])))] [2])))) ∧
 ((((((List.length b) % 35) : Nat) : Int) != (0 : Int)) = false →
 (Fun W.C W.P 50 [(AV.dat (List.length b) ex 1 (rowL b)), (AV.i (35 : Int))] [] (AV.fn (Fn.func (60 : FuncId)) [(AV.ptr 0 []), (AV.ptr 1 [])]) [(0, (Blk.c (AV.dat (List.length b) ex 1 (rowL b)))), (1, (Blk.c (AV.i (35 : Int))))] ∧
  (RngOK W.C W.P 43 D K (stmtAt b_parse [1, 1, 1, 0, 1, 0]) (St.mk [(0, (AV.dat (List.length b) ex 1 (rowL b))), (2, (AV.ptr 2 [])), (3, (AV.i (0 : Int))), (4, (AV.ptr 4 [])), (9, (AV.v (Value.bool false))), (12, (AV.fn (Fn.func (60 : FuncId)) [(AV.ptr 12 []), (AV.ptr 1012 [])]))] [(2, (Blk.c (AV.st [(AV.dat 0 true 0 (fun (x : Nat) => (AV.v (Value.tuple (List.toArray [])))))]))), (4, (Blk.c (AV.st [(AV.dat 0 true 0 (fun (x : Nat) => (AV.v (Value.tuple (List.toArray [])))))]))), (12, (Blk.c (AV.dat (List.length b) ex 1 (rowL b)))), (1012, (Blk.c (AV.i (35 : Int))))] [1012, 12, 4, 2]) (fun (e : Ex) (S' : St) => Holds W.C W.P 43 D K Φ (after W.C w_parse b_parse [1, 1, 1, 0, 1, 0] [] lf e S'))))))) := by kernel_rfl
theorem parse_B0 (d : Nat → Nat) (l : List Cv) {D : Dom} (K : Nat) (Φ : Ex → St → Prop) :
  (Holds C P 43 D K Φ (vc C w_parse asg_parse_0 [] (S_parb d l) (nx fun S' => vc C w_parse rbd_parse_0 [] S' lf))) =
  ((((0 : Int) ≤ (0 : Int)) ∧ ((0 : Int) < (35 : Int))) ∧
 ((I64 (((d 0) : Nat) : Int)) ∧
 ((((0 : Int) ≤ (1 : Int)) ∧ ((1 : Int) < (35 : Int))) ∧
 ((I64 (((d 1) : Nat) : Int)) ∧
 (((0 : Int) ≤ (8 : Int)) ∧
 ((((0 : Int) ≤ (2 : Int)) ∧ ((2 : Int) < (35 : Int))) ∧
 ((I64 (((d 2) : Nat) : Int)) ∧
 ((((0 : Int) ≤ (3 : Int)) ∧ (((3 : Int) ≤ (35 : Int)) ∧ ((35 : Int) ≤ (35 : Int)))) ∧
 ((32 ≤ 32) ∧
 (((((List.length l) + 1) * 48) ≤ 140737488355328) ∧
 (Φ Ex.normal (St.mk [(4, (AV.ptr 0 [])), (5, (AV.dat 35 true 1 (fun (i : Nat) => (AV.v (Value.int IntKind.u8 (((d i) : Nat) : Int)))))), (13, (AV.dat 35 true 1 (fun (i : Nat) => (AV.v (Value.int IntKind.u8 (((d i) : Nat) : Int))))))] [(0, (Blk.c (AV.st [(AV.sl 36 [] 0 ((List.length l) + 1) ((List.length l) + 1) false 34)]))), (35, (Blk.c (AV.st [(AV.st [(AV.i (((d 0) : Nat) : Int)), (AV.i (bOr IntKind.i64 (bShl IntKind.i64 (((d 1) : Nat) : Int) (8 : Int)) (((d 2) : Nat) : Int))), (AV.arr 32 1 (fun (i : Nat) => (AV.v (Value.int IntKind.u8 (((d (3 + i)) : Nat) : Int)))))])]))), (36, (Blk.c (AV.arr ((List.length l) + 1) 34 (cat (List.length l) (fun (i : Nat) => (W.cvA (W.cAt l (0 + i)))) (fun (i : Nat) => (nthD [(AV.st [(AV.i (((d 0) : Nat) : Int)), (AV.i (bOr IntKind.i64 (bShl IntKind.i64 (((d 1) : Nat) : Int) (8 : Int)) (((d 2) : Nat) : Int))), (AV.arr 32 1 (fun (i1 : Nat) => (AV.v (Value.int IntKind.u8 (((d (3 + i1)) : Nat) : Int)))))])] (0 + i) (AV.v (Value.tuple (List.toArray [])))))))))] [36, 35, 0, 1])))))))))))) := by kernel_rfl
theorem parse_R0 (l : List Cv) {D : Dom} (K : Nat) (Φ : Ex → St → Prop) :
  (Holds C P 43 D K Φ (after C w_parse b_parse [1, 1, 1, 0, 1, 0] [] lf .normal (S_parr l))) =
  (Fun W.C W.P 34 [(W.ksA false l)] [] (AV.sb (W.validB (W.toKs (W.ksA false l)))) [] ∧
 (True ∧
 (((! (W.validB (W.toKs (W.ksA false l)))) = true →
 ((((true = true) ∧ (true = true)) ∧ True) ∧
  (Φ Ex.ret (St.mk [(2, (AV.ptr 2 [])), (3, (AV.i (3 : Int))), (4, (AV.ptr 4 [])), (40, (AV.v (Value.bool true)))] [(2, (Blk.c (AV.st [(AV.dat 0 true 0 (fun (x : Nat) => (AV.v (Value.tuple (List.toArray [])))))]))), (4, (Blk.c (W.ksA false l)))] [2, 4])))) ∧
 ((! (W.validB (W.toKs (W.ksA false l)))) = false →
 ((((true = true) ∧ (true = true)) ∧ True) ∧
  (Φ Ex.ret (St.mk [(2, (AV.ptr 2 [])), (3, (AV.i (0 : Int))), (4, (AV.ptr 4 [])), (40, (AV.v (Value.bool false)))] [(2, (Blk.c (W.ksA false l))), (4, (Blk.c (W.ksA false l)))] [2, 4]))))))) := by kernel_rfl
theorem rparse_A (ex : Bool) (b : List Nat) {D : Dom} (K : Nat) (Φ : Ex → St → Prop) :
  (Holds C P 65 D K Φ (vc C w_rparse b_rparse [] (start [dB ex b] []) lf)) =
  ((((true = true) ∧ (true = true)) ∧ True) ∧
 (((35 : Int) ≠ (0 : Int)) ∧
 (((((((List.length b) % 35) : Nat) : Int) != (0 : Int)) = true →
 (((((true = true) ∧ (true = true)) ∧ True) ∧ (((true = true) ∧ (true = true)) ∧ True)) ∧
  (Φ Ex.ret (St.mk [(0, (AV.dat (List.length b) ex 1 (rowL b))), (2, (AV.ptr 2 [])), (3, (AV.ptr 3 [])), (11, (AV.v (Value.bool true)))] [(2, (Blk.c (AV.st [(AV.st [(AV.dat 0 true 0 (fun (x : Nat) => (AV.v (Value.tuple (List.toArray [])))))]), (AV.i (3 : Int))]))), (3, (Blk.c (AV.st [(AV.dat 0 true 0 (fun (x : Nat) => (AV.v (Value.tuple (List.toArray [])))))])))] [3, 2])))) ∧
 ((((((List.length b) % 35) : Nat) : Int) != (0 : Int)) = false →
 (LoopOK W.C W.P 65 D K (bodyAt b_rparse [1, 1, 1, 0, 1, 0]) (St.mk [(0, (AV.dat (List.length b) ex 1 (rowL b))), (2, (AV.ptr 2 [])), (3, (AV.ptr 3 [])), (4, (AV.i (0 : Int))), (11, (AV.v (Value.bool false)))] [(2, (Blk.c (AV.st [(AV.st [(AV.dat 0 true 0 (fun (x : Nat) => (AV.v (Value.tuple (List.toArray [])))))]), (AV.i (0 : Int))]))), (3, (Blk.c (AV.st [(AV.dat 0 true 0 (fun (x : Nat) => (AV.v (Value.tuple (List.toArray [])))))])))] [3, 2]) (fun (e : Ex) (S' : St) => Holds W.C W.P 65 D K Φ (after W.C w_rparse b_rparse [1, 1, 1, 0, 1, 0] [] lf e S'))))))) := by kernel_rfl
noncomputable abbrev bd_rparse_0 : Code := bodyAt (b_rparse) [1, 1, 1, 0, 1, 0]
theorem ok_rparse_0 : codeOK bd_rparse_0 = true := by kernel_rfl
noncomputable abbrev rest_rparse_0 (D : Dom) (K : Nat) (Φ : Ex → St → Prop) : Ex → St → Prop := fun e S' => Holds C P 65 D K Φ (after C w_rparse (b_rparse) [1, 1, 1, 0, 1, 0] [] lf e S')
theorem rparse_L0 (ex : Bool) (b : List Nat) (j : Nat) {D : Dom} (K : Nat) (Φ : Ex → St → Prop) :
  (Holds C P 65 D K (RoundQ C 65 D K (I_rp ex b) (fun j => 35 * j ≤ b.length) (fun j => b.length + 1 - 35 * j) ((fun j => b.length + 1 - 35 * j) (j)) (rest_rparse_0 D K Φ)) (vc C w_rparse bd_rparse_0 [] ((I_rp ex b) (j)) lf)) =
  (((decide ((((35 * j) : Nat) : Int) < (((List.length b) : Nat) : Int))) = true →
 ((((0 : Int) ≤ (((35 * j) : Nat) : Int)) ∧ ((((35 * j) : Nat) : Int) < (((List.length b) : Nat) : Int))) ∧
  ((I64 (((List.getD b (35 * j) 0) : Nat) : Int)) ∧
  ((I64 ((((35 * j) + 1) : Nat) : Int)) ∧
  ((((0 : Int) ≤ ((((35 * j) + 1) : Nat) : Int)) ∧ (((((35 * j) + 1) : Nat) : Int) < (((List.length b) : Nat) : Int))) ∧
  ((I64 (((List.getD b ((35 * j) + 1) 0) : Nat) : Int)) ∧
  ((I64 (((256 * (List.getD b ((35 * j) + 1) 0)) : Nat) : Int)) ∧
  ((I64 ((((35 * j) + 2) : Nat) : Int)) ∧
  ((((0 : Int) ≤ ((((35 * j) + 2) : Nat) : Int)) ∧ (((((35 * j) + 2) : Nat) : Int) < (((List.length b) : Nat) : Int))) ∧
  ((I64 (((List.getD b ((35 * j) + 2) 0) : Nat) : Int)) ∧
  ((I64 ((((256 * (List.getD b ((35 * j) + 1) 0)) + (List.getD b ((35 * j) + 2) 0)) : Nat) : Int)) ∧
  ((W.ShC) ∧
  (LoopOK W.C W.P 65 D K (bodyAt bd_rparse_0 [1, 0, 0, 1, 0, 1, 0]) (St.mk [(0, (AV.dat (List.length b) ex 1 (rowL b))), (2, (AV.ptr 2 [])), (3, (AV.ptr 3 [])), (4, (AV.i (((35 * j) : Nat) : Int))), (5, (AV.ptr 5 [])), (6, (AV.i (0 : Int))), (16, (AV.v (Value.bool true)))] [(2, (Blk.c (AV.st [(AV.st [(AV.dat 0 true 0 (fun (x : Nat) => (AV.v (Value.tuple (List.toArray [])))))]), (AV.i (0 : Int))]))), (3, (Blk.c (AV.st [(W.slK 9 (W.itemsN b j))]))), (5, (Blk.c (AV.st [(AV.i (((List.getD b (35 * j) 0) : Nat) : Int)), (AV.i ((((256 * (List.getD b ((35 * j) + 1) 0)) + (List.getD b ((35 * j) + 2) 0)) : Nat) : Int)), (AV.arr 32 1 (fun (x : Nat) => (AV.v (Value.int IntKind.u8 (0 : Int)))))]))), (9, (Blk.c (W.arK (W.itemsN b j))))] [5, 2, 3, 9]) (fun (e : Ex) (S' : St) => Holds W.C W.P 65 D K (RoundQ C 65 D K (I_rp ex b) (fun j => 35 * j ≤ b.length) (fun j => b.length + 1 - 35 * j) ((fun j => b.length + 1 - 35 * j) (j)) (rest_rparse_0 D K Φ)) (after W.C w_rparse bd_rparse_0 [1, 0, 0, 1, 0, 1, 0] [] lf e S'))))))))))))))) ∧
 ((decide ((((35 * j) : Nat) : Int) < (((List.length b) : Nat) : Int))) = false →
 (Fun W.C W.P 14 [(AV.st [(AV.dat (List.length (W.itemsN b j)) false 34 (fun (i : Nat) => (W.cvA (W.cAt (W.itemsN b j) (0 + i)))))])] [] (AV.sb (W.validB (W.toKs (AV.st [(AV.dat (List.length (W.itemsN b j)) false 34 (fun (i : Nat) => (W.cvA (W.cAt (W.itemsN b j) (0 + i)))))])))) [] ∧
  (True ∧
  (((! (W.validB (W.toKs (AV.st [(AV.dat (List.length (W.itemsN b j)) false 34 (fun (i : Nat) => (W.cvA (W.cAt (W.itemsN b j) (0 + i)))))])))) = true →
  (((((true = true) ∧ (true = true)) ∧ True) ∧ (((true = true) ∧ (true = true)) ∧ True)) ∧
   (Φ Ex.ret (St.mk [(0, (AV.dat (List.length b) ex 1 (rowL b))), (2, (AV.ptr 2 [])), (3, (AV.ptr 3 [])), (4, (AV.i (((35 * j) : Nat) : Int))), (16, (AV.v (Value.bool false))), (61, (AV.v (Value.bool true)))] [(2, (Blk.c (AV.st [(AV.st [(AV.dat 0 true 0 (fun (x : Nat) => (AV.v (Value.tuple (List.toArray [])))))]), (AV.i (3 : Int))]))), (3, (Blk.c (AV.st [(W.slK 9 (W.itemsN b j))]))), (9, (Blk.c (W.arK (W.itemsN b j))))] [2, 3, 9])))) ∧
  ((! (W.validB (W.toKs (AV.st [(AV.dat (List.length (W.itemsN b j)) false 34 (fun (i : Nat) => (W.cvA (W.cAt (W.itemsN b j) (0 + i)))))])))) = false →
  (((((true = true) ∧ (true = true)) ∧ True) ∧ (((true = true) ∧ (true = true)) ∧ True)) ∧
   (Φ Ex.ret (St.mk [(0, (AV.dat (List.length b) ex 1 (rowL b))), (2, (AV.ptr 2 [])), (3, (AV.ptr 3 [])), (4, (AV.i (((35 * j) : Nat) : Int))), (16, (AV.v (Value.bool false))), (61, (AV.v (Value.bool false)))] [(2, (Blk.c (AV.st [(AV.st [(W.slK 9 (W.itemsN b j))]), (AV.i (0 : Int))]))), (3, (Blk.c (AV.st [(W.slK 9 (W.itemsN b j))]))), (9, (Blk.c (W.arK (W.itemsN b j))))] [2, 3, 9]))))))))) := by kernel_rfl
noncomputable abbrev bd_rparse_1 : Code := bodyAt (bd_rparse_0) [1, 0, 0, 1, 0, 1, 0]
theorem ok_rparse_1 : codeOK bd_rparse_1 = true := by kernel_rfl
noncomputable abbrev rest_rparse_1 (D : Dom) (K : Nat) (Φ : Ex → St → Prop) : Ex → St → Prop := fun e S' => Holds C P 65 D K Φ (after C w_rparse (bd_rparse_0) [1, 0, 0, 1, 0, 1, 0] [] lf e S')
theorem rparse_L1 (ex : Bool) (b : List Nat) (j m : Nat) {D : Dom} (K : Nat) (Φ : Ex → St → Prop) :
  (Holds C P 65 D K (RoundQ C 65 D K (I_rp1 ex b j) (fun m => m ≤ 32) (fun m => 32 - m) ((fun m => 32 - m) (m)) (rest_rparse_1 D K Φ)) (vc C w_rparse bd_rparse_1 [] ((I_rp1 ex b j) (m)) lf)) =
  (((decide (((m : Nat) : Int) < (32 : Int))) = true →
 ((I64 ((((35 * j) + 3) : Nat) : Int)) ∧
  ((I64 (((((35 * j) + 3) + m) : Nat) : Int)) ∧
  ((((0 : Int) ≤ (((((35 * j) + 3) + m) : Nat) : Int)) ∧ ((((((35 * j) + 3) + m) : Nat) : Int) < (((List.length b) : Nat) : Int))) ∧
  ((((0 : Int) ≤ ((m : Nat) : Int)) ∧ (((m : Nat) : Int) < (32 : Int))) ∧
  ((I64 (((m + 1) : Nat) : Int)) ∧
  ((RoundQ C 65 D K (I_rp1 ex b j) (fun m => m ≤ 32) (fun m => 32 - m) ((fun m => 32 - m) (m)) (rest_rparse_1 D K Φ)) Ex.normal (St.mk [(0, (AV.dat (List.length b) ex 1 (rowL b))), (2, (AV.ptr 2 [])), (3, (AV.ptr 3 [])), (4, (AV.i (((35 * j) : Nat) : Int))), (5, (AV.ptr 5 [])), (6, (AV.i (((m + 1) : Nat) : Int))), (40, (AV.v (Value.bool true)))] [(2, (Blk.c (AV.st [(AV.st [(AV.dat 0 true 0 (fun (x : Nat) => (AV.v (Value.tuple (List.toArray [])))))]), (AV.i (0 : Int))]))), (3, (Blk.c (AV.st [(W.slK 9 (W.itemsN b j))]))), (5, (Blk.c (AV.st [(AV.i (W.Cv.d (W.itemAt b j))), (AV.i (W.Cv.a (W.itemAt b j))), (AV.arr 32 1 (fun (j1 : Nat) => (if (j1 = m) then (AV.v (Value.int IntKind.u8 (((List.getD b (((35 * j) + 3) + m) 0) : Nat) : Int))) else (AV.v (Value.int IntKind.u8 (((W.keyTo (fun (i : Nat) => (List.getD b ((35 * j) + i) 0)) m j1) : Nat) : Int))))))]))), (9, (Blk.c (W.arK (W.itemsN b j))))] [2, 3, 5, 9])))))))) ∧
 ((decide (((m : Nat) : Int) < (32 : Int))) = false →
 (((((List.length (W.itemsN b j)) + 1) * 48) ≤ 140737488355328) ∧
  ((I64 ((((35 * j) + 35) : Nat) : Int)) ∧
  (Φ Ex.normal (St.mk [(0, (AV.dat (List.length b) ex 1 (rowL b))), (2, (AV.ptr 2 [])), (3, (AV.ptr 3 [])), (4, (AV.i ((((35 * j) + 35) : Nat) : Int))), (5, (AV.ptr 5 [])), (6, (AV.i ((m : Nat) : Int))), (40, (AV.v (Value.bool false)))] [(2, (Blk.c (AV.st [(AV.st [(AV.dat 0 true 0 (fun (x : Nat) => (AV.v (Value.tuple (List.toArray [])))))]), (AV.i (0 : Int))]))), (3, (Blk.c (AV.st [(AV.sl 57 [] 0 ((List.length (W.itemsN b j)) + 1) ((List.length (W.itemsN b j)) + 1) false 34)]))), (5, (Blk.c (AV.st [(AV.i (W.Cv.d (W.itemAt b j))), (AV.i (W.Cv.a (W.itemAt b j))), (AV.arr 32 1 (fun (i : Nat) => (AV.v (Value.int IntKind.u8 (((W.keyTo (fun (i1 : Nat) => (List.getD b ((35 * j) + i1) 0)) m i) : Nat) : Int)))))]))), (56, (Blk.c (AV.st [(AV.st [(AV.i (W.Cv.d (W.itemAt b j))), (AV.i (W.Cv.a (W.itemAt b j))), (AV.arr 32 1 (fun (i : Nat) => (AV.v (Value.int IntKind.u8 (((W.keyTo (fun (i1 : Nat) => (List.getD b ((35 * j) + i1) 0)) m i) : Nat) : Int)))))])]))), (57, (Blk.c (AV.arr ((List.length (W.itemsN b j)) + 1) 34 (cat (List.length (W.itemsN b j)) (fun (i : Nat) => (W.cvA (W.cAt (W.itemsN b j) (0 + i)))) (fun (i : Nat) => (nthD [(AV.st [(AV.i (W.Cv.d (W.itemAt b j))), (AV.i (W.Cv.a (W.itemAt b j))), (AV.arr 32 1 (fun (i1 : Nat) => (AV.v (Value.int IntKind.u8 (((W.keyTo (fun (i2 : Nat) => (List.getD b ((35 * j) + i2) 0)) m i1) : Nat) : Int)))))])] (0 + i) (AV.v (Value.tuple (List.toArray [])))))))))] [57, 56, 2, 3, 5, 9])))))) := by kernel_rfl

theorem wrap_i64n {n : Nat} (h : n < 2 ^ 63) : IntKind.wrap .i64 (n : Int) = (n : Int) := by
  simp [IntKind.wrap, IntKind.bits, IntKind.signed]
  omega
theorem at_bits {x y : Nat} (hx : x < 256) (hy : y < 256) : bOr .i64 (bShl .i64 (x : Int) 8) (y : Int) = ((256 * x + y : Nat) : Int) := by
  have e1 : bShl .i64 (x : Int) 8 = ((256 * x : Nat) : Int) := by
    unfold bShl
    simp only [IntKind.bits]
    have : (x : Int) * 2 ^ (min (8 : Int).toNat 64) = ((256 * x : Nat) : Int) := by
      show (x : Int) * 256 = _
      omega
    rw [this, wrap_i64n (by omega)]
  rw [e1]
  unfold bOr
  have e2 : ∀ n : Nat, n < 2 ^ 63 → (BitVec.ofInt (IntKind.bits .i64) (n : Int)).toNat = n := fun n hn => by
    simp [IntKind.bits]; omega
  rw [BitVec.toNat_or, e2 _ (by omega), e2 _ (by omega)]
  have e3 : 256 * x ||| y = 256 * x + y := (Nat.two_pow_add_eq_or_of_lt (i := 8) (by omega) x).symm
  rw [e3, wrap_i64n (by omega)]
theorem items_succ (b : List Nat) (j : Nat) : itemsN b (j + 1) = itemsN b j ++ [itemAt b j] := by
  unfold itemsN; rw [List.range_succ, List.map_append]; rfl
theorem items_len (b : List Nat) (j : Nat) : (itemsN b j).length = j := by simp [itemsN]
theorem snoc_items (b : List Nat) (j : Nat) : snocP (itemsN b j).length (rowK (itemsN b j)) (fun (i : Nat) => (AV.v (Value.int IntKind.u8 (((List.getD b ((35 * j) + i) 0) : Nat) : Int)))) = itemsN b (j + 1) := by
  unfold snocP
  rw [rowCs_K, items_succ]; rfl
theorem chunk_fun (ex : Bool) (b : List Nat) : Fun C P F_chunk [dB ex b, .i 35] [] (.fn (.func 60) [.ptr 0 [], .ptr 1 []]) [(0, .c (dB ex b)), (1, .c (.i 35))] := by
  refine in_chunk (W := w_chunk) rfl 0 (by simp) rfl (fun id h => absurd rfl h) fun D => ?_
  refine of_eq (chunk_A ex b 0 _) ⟨fun h => by simp at h, fun _ => ?_⟩
  exact funPost_of (r' := .fn (.func 60) [.ptr 0 [], .ptr 1 []]) (S2 := { tm := [(4, .fn (.func 60) [.ptr 0 [], .ptr 1 []])], hp := [(0, .c (dB ex b)), (1, .c (.i 35))], seen := [0, 1] }) (by simp)
    (ent_of [(2, 0), (3, 1)] rfl (tm_cons rfl (sm_fn (sms_cons (sm_ptr rfl) (sms_cons (sm_ptr rfl) sms_nil))) tm_nil) (hp_cons rfl rfl (sm_same rfl) (hp_cons rfl rfl (sm_same rfl) hp_nil))) rfl (sm_fn (sms_cons (sm_ptr rfl) (sms_cons (sm_ptr rfl) sms_nil))) fun _ _ h => h
theorem chunk1_iter (ex : Bool) (b : List Nat) (hb : b.length < 2 ^ 40) (hm : b.length % 35 = 0) {tm : List (Nat × AV)} {l : Nat} {q : Loop} (htd : distinct (keysOf tm) = true) (hfx : tmIn (under 3) tm = tm)
    (hY : ∀ n j, 35 * j < b.length → YFun C P (domR n tm l q) [2, 6] l [.dat 35 true 1 (fun i => u8 (b.getD (35 * j + i) 0))] [(0, .c (.st [slK 1 (itemsN b j)])), (1, .c (arK (itemsN b j)))] (.v (.bool true)) [(0, .c (.st [slK 2 (itemsN b (j + 1))])), (2, .c (arK (itemsN b (j + 1))))]) :
    FunE C P (extOf tm q.tmps) (some (l, q)) 3 F_chunk1 [ryld l, .ptr 0 [], .ptr 1 []] (memP ex b 3 []) (.tup []) (memP ex b 6 (itemsN b (b.length / 35))) := by
  refine inE_chunk1 (W := w_chunk1) rfl 3 (by simp) rfl htd hfx fun n => ?_
  refine of_eq (chunk1_A ex b l 3 _) ?_
  refine loop_inv (W := w_chunk1) ctx mixed ok_chunk1_0 (I_ck ex b l) (fun j => 35 * j ≤ b.length) (fun j => b.length + 1 - 35 * j) 0 (Nat.zero_le _) ?_ fun j hj => ?_
  · exact ent_of [(0, 0), (1, 1), (2, 2), (3, 6)] rfl (tm_cons rfl (sm_same rfl) (tm_cons rfl (sm_ptr rfl) (tm_cons rfl (sm_ptr rfl) (tm_cons rfl (sm_same rfl) tm_nil)))) (hp_cons rfl rfl (sm_same rfl) (hp_cons rfl rfl (sm_same rfl) (hp_cons rfl rfl (sm_st (sms_cons (sm_sl rfl rfl (Nat.le_refl _) (Nat.le_refl _) (fun h => ⟨h, rfl⟩)) sms_nil)) (hp_cons rfl rfl (sm_same rfl) hp_nil))))
  refine of_eq (chunk1_L0 ex b l j 3 _) ⟨fun h => ?_, fun h => ?_⟩
  · simp only [decide_eq_true_eq] at h
    have hlt : 35 * j < b.length := by omega
    have hle : 35 * (j + 1) ≤ b.length := by omega
    refine ⟨(by first | omega | decide | (unfold I64; omega)), cut_ok (S2 := S_ck4 ex b l j) (ent_of [(0, 0), (1, 1), (2, 2), (6, 6)] rfl (tm_cons rfl (sm_same rfl) (tm_cons rfl (sm_ptr rfl) (tm_cons rfl (sm_ptr rfl) (tm_cons rfl (sm_same rfl) (tm_cons rfl (sm_int (by omega)) tm_nil))))) (hp_cons rfl rfl (sm_same rfl) (hp_cons rfl rfl (sm_same rfl) (hp_cons rfl rfl (sm_st (sms_cons (sm_sl rfl rfl (Nat.le_refl _) (Nat.le_refl _) (fun h => ⟨h, rfl⟩)) sms_nil)) (hp_cons rfl rfl (sm_same rfl) hp_nil))))) ?_⟩
    refine of_eq (chunk1_C4 ex b l j 3 _) ?_
    rw [snoc_items, show 35 * j + 35 - 35 * j = 35 by omega]
    exact ⟨(by first | omega | decide | (unfold I64; omega)), (by first | omega | decide | (unfold I64; omega)), by omega, hY n j hlt, (by first | omega | decide | (unfold I64; omega)), round_end (j + 1) hle (ent_of [(0, 0), (1, 1), (2, 2), (29, 6)] rfl (tm_cons rfl (sm_same rfl) (tm_cons rfl (sm_ptr rfl) (tm_cons rfl (sm_ptr rfl) (tm_cons rfl (sm_int (by omega)) tm_nil)))) (hp_cons rfl rfl (sm_same rfl) (hp_cons rfl rfl (sm_same rfl) (hp_cons rfl rfl (sm_st (sms_cons (sm_sl rfl rfl (Nat.le_refl _) (Nat.le_refl _) (fun h => ⟨h, rfl⟩)) sms_nil)) (hp_cons rfl rfl (sm_same rfl) hp_nil))))) (by dsimp only; omega)⟩
  · simp only [decide_eq_false_iff_not] at h
    obtain rfl : j = b.length / 35 := by omega
    exact funPost_of (S2 := { tm := [], hp := memP ex b 6 (itemsN b (b.length / 35)), seen := [0, 1, 2, 6] }) (by simp) (ent_of [(0, 0), (1, 1), (2, 2), (6, 6)] rfl tm_nil (hp_cons rfl rfl (sm_same rfl) (hp_cons rfl rfl (sm_same rfl) (hp_cons rfl rfl (sm_st (sms_cons (sm_sl rfl rfl (Nat.le_refl _) (Nat.le_refl _) (fun h => ⟨h, rfl⟩)) sms_nil)) (hp_cons rfl rfl (sm_same rfl) hp_nil))))) rfl (.inl ⟨rfl, rfl⟩) fun _ _ h => h
theorem par_id {x : AV} {l : List Cv} (id : Nat) (h : look [(0, Blk.c x), (1, .c (arK l))] id ≠ none) {y z : AV} (h2 : look [(0, Blk.c y), (2, .c z)] id ≠ none) : id < 1 := by
  refine Classical.byContradiction fun hc => ?_
  by_cases e : id = 1
  · subst e; exact h2 rfl
  · apply h
    simp only [look, beq_false (show (0 : Nat) ≠ id by omega), beq_false (show (1 : Nat) ≠ id by omega)]
theorem parb {la : Nat} {q : Loop} (hq : RecOf 43 #[13] asg_parse_0 rbd_parse_0 q) (n : Nat) (d : Nat → Nat) (hd : ∀ i, i < 35 → d i < 256) (l : List Cv) (hl : l.length < 2 ^ 40) :
    YFun C P (domR n tmPar la q) [2, 6] la [.dat 35 true 1 (fun i => u8 (d i))] [(0, .c (.st [slK 1 l])), (1, .c (arK l))] (.v (.bool true)) [(0, .c (.st [slK 2 (l ++ [itemD d])])), (2, .c (arK (l ++ [itemD d])))] := by
  refine body_ok ctx mixed (W := w_parse) (k := 1) (p1 := []) (p2 := []) hq oka_parse_0 okr_parse_0 rfl (fun p hp => ?_) (fun id h h2 => par_id id h h2) rfl fun m => ?_
  · simp at hp; rw [hp]; exact (by decide)
  have h0 := hd 0 (by decide)
  have h1 := hd 1 (by decide)
  have h2 := hd 2 (by decide)
  have hA := parse_B0 d l (D := { base := m, round := some la }) 1 (fun e S' => e = .normal ∧ ∃ S2, (∀ {D : Dom}, Ent C 43 D 1 S' S2) ∧ ∀ id b, look [(0, Blk.c (.st [slK 2 (l ++ [itemD d])])), (2, .c (arK (l ++ [itemD d])))] id = some b → look S2.hp id = some b)
  refine of_eq hA ?_
  rw [at_bits h1 h2]
  refine ⟨(by first | omega | decide | (unfold I64; omega)), (by first | omega | decide | (unfold I64; omega)), (by first | omega | decide | (unfold I64; omega)), (by first | omega | decide | (unfold I64; omega)), by decide, (by first | omega | decide | (unfold I64; omega)), (by first | omega | decide | (unfold I64; omega)), (by first | omega | decide | (unfold I64; omega)), by decide, by omega, rfl, { tm := [], hp := [(0, .c (.st [slK 2 (l ++ [itemD d])])), (2, .c (arK (l ++ [itemD d])))], seen := [0, 2] }, ?_, fun _ _ h => h⟩
  intro D
  have hlen : l.length + 1 = (l ++ [itemD d]).length := by simp
  exact ent_of [(0, 0), (36, 2)] rfl tm_nil (hp_cons rfl rfl (sm_st (sms_cons (sm_sl (ex := false) (ex' := false) rfl hlen (Nat.le_of_eq hlen) (Nat.le_of_eq hlen.symm) (by simp)) sms_nil)) (hp_cons rfl rfl (sm_arr' hlen (fun k hk => push_row (s := itemD d) k hk)) hp_nil))
theorem memP_id (ex : Bool) (b : List Nat) (l l' : List Cv) (id : Nat) (h : look (memP ex b 3 l) id ≠ none) (h2 : look (memP ex b 6 l') id ≠ none) : id < 3 := by
  refine Classical.byContradiction fun hc => ?_
  by_cases e6 : id = 6
  · apply h; unfold memP
    simp only [look, beq_false (show (0 : Nat) ≠ id by omega), beq_false (show (1 : Nat) ≠ id by omega), beq_false (show (2 : Nat) ≠ id by omega), beq_false (show (3 : Nat) ≠ id by omega)]
  · apply h2; unfold memP
    simp only [look, beq_false (show (0 : Nat) ≠ id by omega), beq_false (show (1 : Nat) ≠ id by omega), beq_false (show (2 : Nat) ≠ id by omega), beq_false (show (6 : Nat) ≠ id by omega)]
theorem parse_fun (ex : Bool) (b : List Nat) (hs : Small b) (hb : b.length < 2 ^ 40) : Fun C P F_parse [dB ex b] [] (.tup [ksA false (parsL b), .i (parsE b)]) [] := by
  refine inR_parse (W := w_parse) rfl 0 (by simp) rfl (fun id h => absurd rfl h) fun n => ?_
  refine of_eq (parse_A ex b 0 _) ⟨by decide, fun h => ?_, fun h => ?_⟩
  · have hm : ¬ (b.length % 35 = 0 ∧ validB (itemsN b (b.length / 35)) = true) := fun hm => by simp [hm.1] at h
    unfold parsL parsE
    rw [if_neg hm, if_neg hm]
    exact ⟨⟨⟨rfl, rfl⟩, trivial⟩, post_cell_tmp rfl rfl (sm_st (sms_cons (.inr ⟨rfl, by simp, .inl rfl, fun i hi => absurd hi (Nat.not_lt_zero i)⟩) sms_nil)) rfl rfl (sm_int rfl) rfl rfl⟩
  have hm : b.length % 35 = 0 := by
    have : ((b.length % 35 : Nat) : Int) = 0 := by simpa using h
    omega
  have hlen := items_len b (b.length / 35)
  refine ⟨chunk_fun ex b, RngOK.ent (S1 := S_par1 ex b) (ent_of [(2, 2), (4, 4), (12, 12), (1012, 1012)] rfl (tm_cons rfl (sm_ptr rfl) (tm_cons rfl (sm_ptr rfl) (tm_cons rfl (sm_fn (sms_cons (sm_ptr rfl) (sms_cons (sm_ptr rfl) sms_nil))) tm_nil))) (hp_cons rfl rfl (sm_same rfl) (hp_cons rfl rfl (sm_st (sms_cons (sm_nil rfl rfl) sms_nil)) (hp_cons rfl rfl (sm_same rfl) (hp_new rfl rfl (hp_cons rfl rfl (sm_same rfl) hp_nil))))))
    (rng_at (D := { base := n }) rfl rfl st_parse_0 (S2 := S_parr (itemsN b (b.length / 35))) rfl Proofs.Tryd.func60 nm_chunk1 ng_chunk1 [12, 1012, 4, 100] (args' := [.ptr 0 [], .ptr 1 []]) (H := memP ex b 3 [])
      (H' := memP ex b 6 (itemsN b (b.length / 35))) (r := .tup []) (e := { v := .tup [], wr := [(4, .c (.st [slK 2000 (itemsN b (b.length / 35))])), (12, .c (dB ex b)), (1012, .c (.i 35)), (2000, .c (arK (itemsN b (b.length / 35))))], dead := [100], rd := [12, 1012, 4, 100] }) (tmL := tmPar) rfl
      (by kernel_rfl) (by kernel_rfl) (by kernel_rfl) (by kernel_rfl) (by kernel_rfl) (by kernel_rfl) (fun la q hq => chunk1_iter ex b hb hm rfl (by kernel_rfl) fun n j hj => ?_) (memP_id ex b _ _) (by kernel_rfl)
      ((ent_freeze _ [2000]).trans (ent_of [(2, 2), (4, 4)] rfl (tm_cons rfl (sm_ptr rfl) (tm_cons rfl (sm_ptr rfl) tm_nil)) (hp_cons rfl rfl (sm_same rfl) (hp_cons rfl rfl (sm_st (sms_cons (sm_dat (by simp) fun i hi => by show rowK _ (0 + i) = _; rw [Nat.zero_add]) sms_nil)) hp_nil)))) ?_)⟩
  · have := parb (la := la) hq n (fun i => b.getD (35 * j + i) 0) (fun i _ => getD_small hs _) (itemsN b j) (by rw [items_len]; omega)
    rw [items_succ]; exact this
  refine of_eq (parse_R0 _ 0 _) ?_
  rw [toKs_A]
  refine ⟨valid_fun false _ (by omega), trivial, fun h3 => ?_, fun h3 => ?_⟩
  · have hm : ¬ (b.length % 35 = 0 ∧ validB (itemsN b (b.length / 35)) = true) := fun hm => by rw [bnt h3] at hm; cases hm.2
    unfold parsL parsE
    rw [if_neg hm, if_neg hm]
    exact ⟨⟨⟨rfl, rfl⟩, trivial⟩, post_cell_tmp rfl rfl (sm_st (sms_cons (.inr ⟨rfl, by simp, .inl rfl, fun i hi => absurd hi (Nat.not_lt_zero i)⟩) sms_nil)) rfl rfl (sm_int rfl) rfl rfl⟩
  · have hm : b.length % 35 = 0 ∧ validB (itemsN b (b.length / 35)) = true := ⟨hm, bnf h3⟩
    unfold parsL parsE
    rw [if_pos hm, if_pos hm]
    exact ⟨⟨⟨rfl, rfl⟩, trivial⟩, post_cell_tmp rfl rfl (sm_same rfl) rfl rfl (sm_int rfl) rfl rfl⟩
theorem rparse_fun (ex : Bool) (b : List Nat) (hs : Small b) (hb : b.length < 2 ^ 40) : Fun C P F_rparse [dB ex b] [] (.st [ksA false (parsL b), .i (parsE b)]) [] := by
  refine in_rparse (W := w_rparse) rfl 0 (by simp) rfl (fun id h => absurd rfl h) fun D => ?_
  refine of_eq (rparse_A ex b 0 _) ⟨⟨⟨rfl, rfl⟩, trivial⟩, by decide, fun h => ?_, fun h => ?_⟩
  · have hm : ¬ (b.length % 35 = 0 ∧ validB (itemsN b (b.length / 35)) = true) := fun hm => by simp [hm.1] at h
    unfold parsL parsE
    rw [if_neg hm, if_neg hm]
    exact ⟨⟨⟨⟨rfl, rfl⟩, trivial⟩, ⟨rfl, rfl⟩, trivial⟩, post_cell rfl rfl (sm_st (sms_cons (sm_st (sms_cons (.inr ⟨rfl, by simp, .inl rfl, fun i hi => absurd hi (Nat.not_lt_zero i)⟩) sms_nil)) (sms_cons (sm_int rfl) sms_nil))) rfl⟩
  have hm : b.length % 35 = 0 := by
    have : ((b.length % 35 : Nat) : Int) = 0 := by simpa using h
    omega
  refine loop_inv (W := w_rparse) ctx mixed ok_rparse_0 (I_rp ex b) (fun j => 35 * j ≤ b.length) (fun j => b.length + 1 - 35 * j) 0 (Nat.zero_le _) ?_ fun j hj => ?_
  · exact ent_of [(2, 2), (3, 3)] rfl (tm_cons rfl (sm_same rfl) (tm_cons rfl (sm_ptr rfl) (tm_cons rfl (sm_ptr rfl) (tm_cons rfl (sm_same rfl) tm_nil)))) (hp_cons rfl rfl (sm_same rfl) (hp_cons rfl rfl (sm_st (sms_cons (sm_nil rfl rfl) sms_nil)) (hp_new rfl rfl hp_nil)))
  have hlen := items_len b j
  have hg : ∀ i, b.getD i 0 < 256 := getD_small hs
  have g0 := hg (35 * j)
  have g1 := hg (35 * j + 1)
  have g2 := hg (35 * j + 2)
  refine of_eq (rparse_L0 ex b j 0 _) ⟨fun h => ?_, fun h => ?_⟩
  · simp only [decide_eq_true_eq] at h
    have hle : 35 * (j + 1) ≤ b.length := by omega
    refine ⟨(by first | omega | decide | (unfold I64; omega)), (by first | omega | decide | (unfold I64; omega)), (by first | omega | decide | (unfold I64; omega)), (by first | omega | decide | (unfold I64; omega)), (by first | omega | decide | (unfold I64; omega)), (by first | omega | decide | (unfold I64; omega)), (by first | omega | decide | (unfold I64; omega)), (by first | omega | decide | (unfold I64; omega)), (by first | omega | decide | (unfold I64; omega)), (by first | omega | decide | (unfold I64; omega)), shC_t, loop_inv (W := w_rparse) ctx mixed ok_rparse_1 (I_rp1 ex b j) (fun m => m ≤ 32) (fun m => 32 - m) 0 (Nat.zero_le _) ?_ fun m hm' => ?_⟩
    · exact ent_of [(2, 2), (3, 3), (5, 5), (9, 9)] rfl (tm_cons rfl (sm_same rfl) (tm_cons rfl (sm_ptr rfl) (tm_cons rfl (sm_ptr rfl) (tm_cons rfl (sm_same rfl) (tm_cons rfl (sm_ptr rfl) (tm_cons rfl (sm_same rfl) tm_nil)))))) (hp_cons rfl rfl (sm_same rfl) (hp_cons rfl rfl (sm_st (sms_cons (sm_sl rfl rfl (Nat.le_refl _) (Nat.le_refl _) (fun h => ⟨h, rfl⟩)) sms_nil)) (hp_cons rfl rfl (sm_st (sms_cons (sm_int rfl) (sms_cons (sm_int rfl) (sms_cons (sm_arr fun i hi => (by unfold keyTo; rw [if_neg (Nat.not_lt_zero i)]; rfl)) sms_nil)))) (hp_cons rfl rfl (sm_same rfl) hp_nil))))
    refine of_eq (rparse_L1 ex b j m 0 _) ⟨fun h2 => ?_, fun h2 => ?_⟩
    · simp only [decide_eq_true_eq] at h2
      refine ⟨(by first | omega | decide | (unfold I64; omega)), (by first | omega | decide | (unfold I64; omega)), by omega, (by first | omega | decide | (unfold I64; omega)), (by first | omega | decide | (unfold I64; omega)), round_end (m + 1) (by omega) (ent_of [(2, 2), (3, 3), (5, 5), (9, 9)] rfl (tm_cons rfl (sm_same rfl) (tm_cons rfl (sm_ptr rfl) (tm_cons rfl (sm_ptr rfl) (tm_cons rfl (sm_same rfl) (tm_cons rfl (sm_ptr rfl) (tm_cons rfl (sm_same rfl) tm_nil)))))) (hp_cons rfl rfl (sm_same rfl) (hp_cons rfl rfl (sm_st (sms_cons (sm_sl rfl rfl (Nat.le_refl _) (Nat.le_refl _) (fun h => ⟨h, rfl⟩)) sms_nil)) (hp_cons rfl rfl (sm_st (sms_cons (sm_int rfl) (sms_cons (sm_int rfl) (sms_cons (sm_arr fun i hi => ?_) sms_nil)))) (hp_cons rfl rfl (sm_same rfl) hp_nil))))) (by dsimp only; omega)⟩
      unfold keyTo
      by_cases e : i = m
      · rw [if_pos e, e, if_pos (show m < m + 1 by omega), Nat.add_assoc]
      · rw [if_neg e]
        by_cases e2 : i < m
        · rw [if_pos e2, if_pos (by omega)]
        · rw [if_neg e2, if_neg (by omega)]
    · simp only [decide_eq_false_iff_not] at h2
      obtain rfl : m = 32 := by omega
      have hl : (itemsN b j).length + 1 = (itemsN b (j + 1)).length := by rw [items_succ]; simp
      refine ⟨by omega, (by first | omega | decide | (unfold I64; omega)), round_end (j + 1) hle (ent_of [(2, 2), (3, 3), (57, 9)] rfl (tm_cons rfl (sm_same rfl) (tm_cons rfl (sm_ptr rfl) (tm_cons rfl (sm_ptr rfl) (tm_cons rfl (sm_int (by omega)) tm_nil)))) (hp_cons rfl rfl (sm_same rfl) (hp_cons rfl rfl (sm_st (sms_cons (sm_sl (ex := false) (ex' := false) rfl hl (Nat.le_of_eq hl) (Nat.le_of_eq hl.symm) (by simp)) sms_nil)) (hp_cons rfl rfl (.inr ⟨hl, rfl, fun k hk => ?_⟩) hp_nil)))) (by dsimp only; omega)⟩
      show _ = cvA (cAt (itemsN b (j + 1)) k) ∨ sim (fun _ => none) _ (cvA (cAt (itemsN b (j + 1)) k))
      rw [items_succ, cAt_append]
      unfold cat
      by_cases e : k < (itemsN b j).length
      · rw [if_pos e, if_pos e]; exact .inl (by show cvA (cAt (itemsN b j) (0 + k)) = _; rw [Nat.zero_add])
      · rw [if_neg e, if_neg e, show k - (itemsN b j).length = 0 by omega]
        refine .inr (sms_cons (sm_int rfl) (sms_cons (sm_int rfl) (sms_cons (sm_arr fun i hi => ?_) sms_nil)))
        unfold keyTo
        rw [if_pos hi]; rfl
  · simp only [decide_eq_false_iff_not] at h
    obtain rfl : j = b.length / 35 := by omega
    have e0 : (fun (i : Nat) => cvA (cAt (itemsN b (b.length / 35)) (0 + i))) = fun i => cvA (cAt (itemsN b (b.length / 35)) i) := by funext i; rw [Nat.zero_add]
    rw [e0, toKs_A]
    refine ⟨rvalid_fun false _ (by omega), trivial, fun h3 => ?_, fun h3 => ?_⟩
    · have hm : ¬ (b.length % 35 = 0 ∧ validB (itemsN b (b.length / 35)) = true) := fun hm => by rw [bnt h3] at hm; cases hm.2
      unfold parsL parsE
      rw [if_neg hm, if_neg hm]
      exact ⟨⟨⟨⟨rfl, rfl⟩, trivial⟩, ⟨rfl, rfl⟩, trivial⟩, post_cell rfl rfl (sm_st (sms_cons (sm_st (sms_cons (.inr ⟨rfl, by simp, .inl rfl, fun i hi => absurd hi (Nat.not_lt_zero i)⟩) sms_nil)) (sms_cons (sm_int rfl) sms_nil))) rfl⟩
    · have hm : b.length % 35 = 0 ∧ validB (itemsN b (b.length / 35)) = true := ⟨hm, bnf h3⟩
      unfold parsL parsE
      rw [if_pos hm, if_pos hm]
      refine ⟨⟨⟨⟨rfl, rfl⟩, trivial⟩, ⟨rfl, rfl⟩, trivial⟩, post_frz [9] (post_cell rfl rfl (sm_st (sms_cons (sm_st (sms_cons (sm_dat (by simp) fun i hi => ?_) sms_nil)) (sms_cons (sm_int rfl) sms_nil))) rfl)⟩
      show rowK (itemsN b (b.length / 35)) (0 + i) = _
      rw [Nat.zero_add]
end Go.Bu.W

