/- Valid, here and there. -/
import Derived.Test.YtjfggjlbnmdceaaK14
namespace Go.Bu.W
def flyOK (n : Net) (i : Nat) : Bool := decide (1 ≤ (kAt n.fly i).1) && decide ((kAt n.fly i).1 < n.next) && partsB (kAt n.fly i).2.1 (kAt n.fly i).2.2 && (decide (i = 0) || decide ((kAt n.fly (i - 1)).1 < (kAt n.fly i).1))
def cutOK (n : Net) (i : Nat) : Bool := partsB (pAt n.cuts i).1 (pAt n.cuts i).2 && decide ((pAt n.cuts i).1 ≤ (pAt n.cuts i).2) && (decide (i = 0) || decide (ordP (pAt n.cuts (i - 1)) (pAt n.cuts i) < 0))
def vB (n : Net) : Bool := (List.range n.fly.length).all (flyOK n) && (List.range n.cuts.length).all (cutOK n) && decide (n.fly.length ≤ 200) && decide (n.cuts.length ≤ 200) && decide (1 ≤ n.next) && decide (n.next ≤ 1000000000)
def crLess : List AV → Option (AV × List (Nat × Blk))
  | [x, y] => some (.sb (decide (ordP (toP x) (toP y) < 0)), [])
  | _ => none
def crN6 (g : Nat) (args : List AV) (H : List (Nat × Blk)) : Option (AV × List (Nat × Blk)) :=
  sel (Nat.beq g F_valid) (match args with | [x] => some (.sb (vB (toN x)), []) | _ => none) <|
  sel (Nat.beq g F_rvalid) (match args with | [x] => some (.sb (vB (toN x)), []) | _ => none) <|
  sel (Nat.beq g F_rpart) (match args with | [.v (.int _ a)] => some (.sb (decide (0 ≤ a) && decide (a ≤ 1000000000)), []) | _ => none) <|
  sel (Nat.beq g F_rparts) (crParts args) <|
  sel (Nat.beq g F_less) (crLess args) <|
  crN5 g args H
def wayV (keep : List Nat) (nt : Nat) (cuts : List Nat) : Way := ⟨crN6, byrefI, keep, [], nt, cuts⟩
def w_valid : Way := wayV [0, 1, 2, 3, 5, 6, 7, 9, 10, 11, 12, 33, 38, 39, 40, 41, 74] 94 []
def w_rvalid : Way := wayV [0, 1, 2, 3, 4, 5, 6, 11, 52, 57, 92] 113 []
def w_rpart : Way := wayV [0, 2] 9 []
def w_rparts : Way := wayV [0, 1, 4] 16 []
def w_less : Way := wayV [0, 1, 2, 3, 4] 24 []
def lastK (n : Net) (i : Nat) : Int := if i = 0 then 0 else (kAt n.fly (i - 1)).1
def I_v0 (n : Net) (i : Nat) : St := { tm := [(1, .ptr 1 []), (3, .i (lastK n i)), (9, dK false n.fly), (10, i64 n.fly.length), (11, i64 i)], hp := [(1, .c (netD n))], seen := [1] }
def I_v1 (n : Net) (i : Nat) : St := { tm := [(1, .ptr 1 []), (38, dP false n.cuts), (39, i64 n.cuts.length), (40, i64 i)], hp := [(1, .c (netD n))], seen := [1] }
def I_w0 (n : Net) (i : Nat) : St := { tm := [(1, .ptr 1 []), (3, i64 i)], hp := [(1, .c (netD n))], seen := [1] }
def I_w1 (n : Net) (i : Nat) : St := { tm := [(1, .ptr 1 []), (5, i64 i)], hp := [(1, .c (netD n))], seen := [1] }

theorem rpart_A (a : Int) (K : Nat) (Φ : Ex → St → Prop) :
  (Holds C P 9 [] K Φ (vc C w_rpart b_rpart [] (start [.i a] []) lf)) =
  (((decide (a ≥ (0 : Int))) = true →
 (Φ Ex.ret (St.mk [(0, (AV.i a)), (2, (AV.sb (decide (a ≤ (1000000000 : Int)))))] [] []))) ∧
 ((decide (a ≥ (0 : Int))) = false →
 (Φ Ex.ret (St.mk [(0, (AV.i a)), (2, (AV.v (Value.bool false)))] [] [])))) := by kernel_rfl
theorem rparts_A (a b : Int) (K : Nat) (Φ : Ex → St → Prop) :
  (Holds C P 16 [] K Φ (vc C w_rparts b_rparts [] (start [.i a, .i b] []) lf)) =
  (Fun W.C W.P 45 [(AV.i a)] [] (AV.sb ((decide ((0 : Int) ≤ a)) && (decide (a ≤ (1000000000 : Int))))) [] ∧
 (True ∧
 ((((decide ((0 : Int) ≤ a)) && (decide (a ≤ (1000000000 : Int)))) = true →
 (Fun W.C W.P 45 [(AV.i b)] [] (AV.sb ((decide ((0 : Int) ≤ b)) && (decide (b ≤ (1000000000 : Int))))) [] ∧
  (True ∧
  ((((decide ((0 : Int) ≤ b)) && (decide (b ≤ (1000000000 : Int)))) = true →
  (Φ Ex.ret (St.mk [(0, (AV.i a)), (1, (AV.i b)), (4, (AV.sb (a != b)))] [] []))) ∧
  (((decide ((0 : Int) ≤ b)) && (decide (b ≤ (1000000000 : Int)))) = false →
  (Φ Ex.ret (St.mk [(0, (AV.i a)), (1, (AV.i b)), (4, (AV.v (Value.bool false)))] [] []))))))) ∧
 (((decide ((0 : Int) ≤ a)) && (decide (a ≤ (1000000000 : Int)))) = false →
 (Φ Ex.ret (St.mk [(0, (AV.i a)), (1, (AV.i b)), (4, (AV.v (Value.bool false)))] [] [])))))) := by kernel_rfl
theorem less_A (x y : PI) (K : Nat) (Φ : Ex → St → Prop) :
  (Holds C P 24 [] K Φ (vc C w_less b_less [] (start [prA x, prA y] []) lf)) =
  ((((0 : Int) ≤ (0 : Int)) ∧ ((0 : Int) < (2 : Int))) ∧
 ((((0 : Int) ≤ (0 : Int)) ∧ ((0 : Int) < (2 : Int))) ∧
 (((decide ((W.two (Prod.fst x) (Prod.snd x) 0) < (W.two (Prod.fst y) (Prod.snd y) 0))) = true →
 (Φ Ex.ret (St.mk [(0, (W.prA x)), (1, (W.prA y)), (2, (AV.ptr 2 [])), (3, (AV.ptr 3 [])), (4, (AV.v (Value.bool true)))] [(2, (Blk.c (W.prA x))), (3, (Blk.c (W.prA y)))] [3, 2]))) ∧
 ((decide ((W.two (Prod.fst x) (Prod.snd x) 0) < (W.two (Prod.fst y) (Prod.snd y) 0))) = false →
 ((((0 : Int) ≤ (0 : Int)) ∧ ((0 : Int) < (2 : Int))) ∧
  ((((0 : Int) ≤ (0 : Int)) ∧ ((0 : Int) < (2 : Int))) ∧
  ((((W.two (Prod.fst x) (Prod.snd x) 0) == (W.two (Prod.fst y) (Prod.snd y) 0)) = true →
  ((((0 : Int) ≤ (1 : Int)) ∧ ((1 : Int) < (2 : Int))) ∧
   ((((0 : Int) ≤ (1 : Int)) ∧ ((1 : Int) < (2 : Int))) ∧
   (Φ Ex.ret (St.mk [(0, (W.prA x)), (1, (W.prA y)), (2, (AV.ptr 2 [])), (3, (AV.ptr 3 [])), (4, (AV.sb (decide ((W.two (Prod.fst x) (Prod.snd x) 1) < (W.two (Prod.fst y) (Prod.snd y) 1)))))] [(2, (Blk.c (W.prA x))), (3, (Blk.c (W.prA y)))] [3, 2]))))) ∧
  (((W.two (Prod.fst x) (Prod.snd x) 0) == (W.two (Prod.fst y) (Prod.snd y) 0)) = false →
  (Φ Ex.ret (St.mk [(0, (W.prA x)), (1, (W.prA y)), (2, (AV.ptr 2 [])), (3, (AV.ptr 3 [])), (4, (AV.v (Value.bool false)))] [(2, (Blk.c (W.prA x))), (3, (Blk.c (W.prA y)))] [3, 2])))))))))) := by kernel_rfl
theorem valid_A (n : Net) (K : Nat) (Φ : Ex → St → Prop) :
  (Holds C P 94 [] K Φ (vc C w_valid b_valid [] (start [netD n] []) lf)) =
  (LoopOK W.C W.P 94 [] K (bodyAt b_valid [1, 1, 0, 1, 0]) (St.mk [(0, (W.netA false false n)), (1, (AV.ptr 1 [])), (2, (AV.v (Value.bool false))), (3, (AV.i (0 : Int))), (9, (W.dK false (W.Net.fly n))), (10, (AV.i (((List.length (W.Net.fly n)) : Nat) : Int))), (11, (AV.i (0 : Int)))] [(1, (Blk.c (W.netA false false n)))] [1]) (fun (e : Ex) (S' : St) => Holds W.C W.P 94 [] K Φ (after W.C w_valid b_valid [1, 1, 0, 1, 0] [] lf e S'))) := by kernel_rfl
noncomputable abbrev bd_valid_0 : Code := bodyAt (b_valid) [1, 1, 0, 1, 0]
theorem ok_valid_0 : codeOK bd_valid_0 = true := by kernel_rfl
noncomputable abbrev rest_valid_0 (K : Nat) (Φ : Ex → St → Prop) : Ex → St → Prop := fun e S' => Holds C P 94 [] K Φ (after C w_valid (b_valid) [1, 1, 0, 1, 0] [] lf e S')
theorem valid_L0 (n : Net) (i : Nat) (K : Nat) (Φ : Ex → St → Prop) :
  (Holds C P 94 [] K (RoundQ C 94 [] K (I_v0 n) (fun i => i ≤ n.fly.length ∧ ∀ k, k < i → flyOK n k = true) (fun i => n.fly.length - i) ((fun i => n.fly.length - i) (i)) (rest_valid_0 K Φ)) (vc C w_valid bd_valid_0 [] ((I_v0 n) (i)) lf)) =
  (((decide (((i : Nat) : Int) < (((List.length (W.Net.fly n)) : Nat) : Int))) = true →
 ((((0 : Int) ≤ ((i : Nat) : Int)) ∧ (((i : Nat) : Int) < (((List.length (W.Net.fly n)) : Nat) : Int))) ∧
  ((W.ShK) ∧
  (((decide ((Prod.fst (W.kAt (W.Net.fly n) i)) ≤ (W.lastK n i))) = true →
  (Φ Ex.ret (St.mk [(1, (AV.ptr 1 [])), (2, (AV.v (Value.bool false))), (3, (AV.i (W.lastK n i))), (5, (AV.ptr 5 [])), (9, (W.dK false (W.Net.fly n))), (10, (AV.i (((List.length (W.Net.fly n)) : Nat) : Int))), (11, (AV.i ((i : Nat) : Int))), (12, (AV.v (Value.bool true))), (33, (AV.v (Value.bool true)))] [(1, (Blk.c (W.netA false false n))), (5, (Blk.c (W.pkA (W.kAt (W.Net.fly n) i))))] [5, 1]))) ∧
  ((decide ((Prod.fst (W.kAt (W.Net.fly n) i)) ≤ (W.lastK n i))) = false →
  (((decide ((Prod.fst (W.kAt (W.Net.fly n) i)) ≥ (W.Net.next n))) = true →
   (Φ Ex.ret (St.mk [(1, (AV.ptr 1 [])), (2, (AV.v (Value.bool false))), (3, (AV.i (W.lastK n i))), (5, (AV.ptr 5 [])), (9, (W.dK false (W.Net.fly n))), (10, (AV.i (((List.length (W.Net.fly n)) : Nat) : Int))), (11, (AV.i ((i : Nat) : Int))), (12, (AV.v (Value.bool true))), (33, (AV.v (Value.bool true)))] [(1, (Blk.c (W.netA false false n))), (5, (Blk.c (W.pkA (W.kAt (W.Net.fly n) i))))] [5, 1]))) ∧
   ((decide ((Prod.fst (W.kAt (W.Net.fly n) i)) ≥ (W.Net.next n))) = false →
   (Fun W.C W.P 43 [(AV.i (Prod.fst (Prod.snd (W.kAt (W.Net.fly n) i)))), (AV.i (Prod.snd (Prod.snd (W.kAt (W.Net.fly n) i))))] [] (AV.sb (W.partsB (Prod.fst (Prod.snd (W.kAt (W.Net.fly n) i))) (Prod.snd (Prod.snd (W.kAt (W.Net.fly n) i))))) [] ∧
    (True ∧
    (((! (W.partsB (Prod.fst (Prod.snd (W.kAt (W.Net.fly n) i))) (Prod.snd (Prod.snd (W.kAt (W.Net.fly n) i))))) = true →
    (Φ Ex.ret (St.mk [(1, (AV.ptr 1 [])), (2, (AV.v (Value.bool false))), (3, (AV.i (W.lastK n i))), (5, (AV.ptr 5 [])), (9, (W.dK false (W.Net.fly n))), (10, (AV.i (((List.length (W.Net.fly n)) : Nat) : Int))), (11, (AV.i ((i : Nat) : Int))), (12, (AV.v (Value.bool true))), (33, (AV.v (Value.bool true)))] [(1, (Blk.c (W.netA false false n))), (5, (Blk.c (W.pkA (W.kAt (W.Net.fly n) i))))] [5, 1]))) ∧
    ((! (W.partsB (Prod.fst (Prod.snd (W.kAt (W.Net.fly n) i))) (Prod.snd (Prod.snd (W.kAt (W.Net.fly n) i))))) = false →
    ((I64 (((i + 1) : Nat) : Int)) ∧
     ((RoundQ C 94 [] K (I_v0 n) (fun i => i ≤ n.fly.length ∧ ∀ k, k < i → flyOK n k = true) (fun i => n.fly.length - i) ((fun i => n.fly.length - i) (i)) (rest_valid_0 K Φ)) Ex.normal (St.mk [(1, (AV.ptr 1 [])), (3, (AV.i (Prod.fst (W.kAt (W.Net.fly n) i)))), (5, (AV.ptr 5 [])), (9, (W.dK false (W.Net.fly n))), (10, (AV.i (((List.length (W.Net.fly n)) : Nat) : Int))), (11, (AV.i (((i + 1) : Nat) : Int))), (12, (AV.v (Value.bool true))), (33, (AV.v (Value.bool false)))] [(1, (Blk.c (W.netA false false n))), (5, (Blk.c (W.pkA (W.kAt (W.Net.fly n) i))))] [5, 1])))))))))))))) ∧
 ((decide (((i : Nat) : Int) < (((List.length (W.Net.fly n)) : Nat) : Int))) = false →
 (LoopOK W.C W.P 94 [] K (bodyAt b_valid [1, 1, 1, 0, 1, 0]) (St.mk [(1, (AV.ptr 1 [])), (3, (AV.i (W.lastK n i))), (9, (W.dK false (W.Net.fly n))), (10, (AV.i (((List.length (W.Net.fly n)) : Nat) : Int))), (11, (AV.i ((i : Nat) : Int))), (12, (AV.v (Value.bool false))), (38, (W.dP false (W.Net.cuts n))), (39, (AV.i (((List.length (W.Net.cuts n)) : Nat) : Int))), (40, (AV.i (0 : Int)))] [(1, (Blk.c (W.netA false false n)))] [1]) (fun (e : Ex) (S' : St) => Holds W.C W.P 94 [] K Φ (after W.C w_valid b_valid [1, 1, 1, 0, 1, 0] [] lf e S'))))) := by kernel_rfl
noncomputable abbrev bd_valid_1 : Code := bodyAt (b_valid) [1, 1, 1, 0, 1, 0]
theorem ok_valid_1 : codeOK bd_valid_1 = true := by kernel_rfl
noncomputable abbrev rest_valid_1 (K : Nat) (Φ : Ex → St → Prop) : Ex → St → Prop := fun e S' => Holds C P 94 [] K Φ (after C w_valid (b_valid) [1, 1, 1, 0, 1, 0] [] lf e S')
theorem valid_L1 (n : Net) (i : Nat) (K : Nat) (Φ : Ex → St → Prop) :
  (Holds C P 94 [] K (RoundQ C 94 [] K (I_v1 n) (fun i => i ≤ n.cuts.length ∧ ∀ k, k < i → cutOK n k = true) (fun i => n.cuts.length - i) ((fun i => n.cuts.length - i) (i)) (rest_valid_1 K Φ)) (vc C w_valid bd_valid_1 [] ((I_v1 n) (i)) lf)) =
  (((decide (((i : Nat) : Int) < (((List.length (W.Net.cuts n)) : Nat) : Int))) = true →
 ((((0 : Int) ≤ ((i : Nat) : Int)) ∧ (((i : Nat) : Int) < (((List.length (W.Net.cuts n)) : Nat) : Int))) ∧
  (((2 = 2) ∧ ((1 = 1) ∧ (∀ (i1 : Nat), ((i1 < 2) → ((true = true) ∧ (true = true)))))) ∧
  ((((0 : Int) ≤ (0 : Int)) ∧ ((0 : Int) < (2 : Int))) ∧
  ((((0 : Int) ≤ (1 : Int)) ∧ ((1 : Int) < (2 : Int))) ∧
  (Fun W.C W.P 43 [(AV.i (W.two (Prod.fst (W.pAt (W.Net.cuts n) i)) (Prod.snd (W.pAt (W.Net.cuts n) i)) 0)), (AV.i (W.two (Prod.fst (W.pAt (W.Net.cuts n) i)) (Prod.snd (W.pAt (W.Net.cuts n) i)) 1))] [] (AV.sb (W.partsB (W.two (Prod.fst (W.pAt (W.Net.cuts n) i)) (Prod.snd (W.pAt (W.Net.cuts n) i)) 0) (W.two (Prod.fst (W.pAt (W.Net.cuts n) i)) (Prod.snd (W.pAt (W.Net.cuts n) i)) 1))) [] ∧
  (True ∧
  (((! (W.partsB (W.two (Prod.fst (W.pAt (W.Net.cuts n) i)) (Prod.snd (W.pAt (W.Net.cuts n) i)) 0) (W.two (Prod.fst (W.pAt (W.Net.cuts n) i)) (Prod.snd (W.pAt (W.Net.cuts n) i)) 1))) = true →
  (Φ Ex.ret (St.mk [(1, (AV.ptr 1 [])), (2, (AV.v (Value.bool false))), (6, (AV.i ((i : Nat) : Int))), (7, (AV.ptr 7 [])), (38, (W.dP false (W.Net.cuts n))), (39, (AV.i (((List.length (W.Net.cuts n)) : Nat) : Int))), (40, (AV.i ((i : Nat) : Int))), (41, (AV.v (Value.bool true))), (74, (AV.v (Value.bool true)))] [(1, (Blk.c (W.netA false false n))), (7, (Blk.c (W.prA (W.pAt (W.Net.cuts n) i))))] [7, 1]))) ∧
  ((! (W.partsB (W.two (Prod.fst (W.pAt (W.Net.cuts n) i)) (Prod.snd (W.pAt (W.Net.cuts n) i)) 0) (W.two (Prod.fst (W.pAt (W.Net.cuts n) i)) (Prod.snd (W.pAt (W.Net.cuts n) i)) 1))) = false →
  ((((0 : Int) ≤ (0 : Int)) ∧ ((0 : Int) < (2 : Int))) ∧
   ((((0 : Int) ≤ (1 : Int)) ∧ ((1 : Int) < (2 : Int))) ∧
   (Fun W.C W.P 35 [(AV.i (W.two (Prod.fst (W.pAt (W.Net.cuts n) i)) (Prod.snd (W.pAt (W.Net.cuts n) i)) 0)), (AV.i (W.two (Prod.fst (W.pAt (W.Net.cuts n) i)) (Prod.snd (W.pAt (W.Net.cuts n) i)) 1))] [] (W.prA ((Min.min (W.two (Prod.fst (W.pAt (W.Net.cuts n) i)) (Prod.snd (W.pAt (W.Net.cuts n) i)) 0) (W.two (Prod.fst (W.pAt (W.Net.cuts n) i)) (Prod.snd (W.pAt (W.Net.cuts n) i)) 1)), (Max.max (W.two (Prod.fst (W.pAt (W.Net.cuts n) i)) (Prod.snd (W.pAt (W.Net.cuts n) i)) 0) (W.two (Prod.fst (W.pAt (W.Net.cuts n) i)) (Prod.snd (W.pAt (W.Net.cuts n) i)) 1)))) [] ∧
   ((∀ (i1 : Nat), ((i1 < 2) → True)) ∧
   ((∀ (i1 : Nat), ((i1 < 2) → ((IntKind.i64 = IntKind.i64) ∧ (IntKind.i64 = IntKind.i64)))) ∧
   (((! (List.all (List.range 2) (fun (i1 : Nat) => ((W.two (Prod.fst (W.pAt (W.Net.cuts n) i)) (Prod.snd (W.pAt (W.Net.cuts n) i)) i1) == (W.two (Prod.fst ((Min.min (W.two (Prod.fst (W.pAt (W.Net.cuts n) i)) (Prod.snd (W.pAt (W.Net.cuts n) i)) 0) (W.two (Prod.fst (W.pAt (W.Net.cuts n) i)) (Prod.snd (W.pAt (W.Net.cuts n) i)) 1)), (Max.max (W.two (Prod.fst (W.pAt (W.Net.cuts n) i)) (Prod.snd (W.pAt (W.Net.cuts n) i)) 0) (W.two (Prod.fst (W.pAt (W.Net.cuts n) i)) (Prod.snd (W.pAt (W.Net.cuts n) i)) 1)))) (Prod.snd ((Min.min (W.two (Prod.fst (W.pAt (W.Net.cuts n) i)) (Prod.snd (W.pAt (W.Net.cuts n) i)) 0) (W.two (Prod.fst (W.pAt (W.Net.cuts n) i)) (Prod.snd (W.pAt (W.Net.cuts n) i)) 1)), (Max.max (W.two (Prod.fst (W.pAt (W.Net.cuts n) i)) (Prod.snd (W.pAt (W.Net.cuts n) i)) 0) (W.two (Prod.fst (W.pAt (W.Net.cuts n) i)) (Prod.snd (W.pAt (W.Net.cuts n) i)) 1)))) i1))))) = true →
   (Φ Ex.ret (St.mk [(1, (AV.ptr 1 [])), (2, (AV.v (Value.bool false))), (6, (AV.i ((i : Nat) : Int))), (7, (AV.ptr 7 [])), (38, (W.dP false (W.Net.cuts n))), (39, (AV.i (((List.length (W.Net.cuts n)) : Nat) : Int))), (40, (AV.i ((i : Nat) : Int))), (41, (AV.v (Value.bool true))), (74, (AV.v (Value.bool true)))] [(1, (Blk.c (W.netA false false n))), (7, (Blk.c (W.prA (W.pAt (W.Net.cuts n) i))))] [7, 1]))) ∧
   ((! (List.all (List.range 2) (fun (i1 : Nat) => ((W.two (Prod.fst (W.pAt (W.Net.cuts n) i)) (Prod.snd (W.pAt (W.Net.cuts n) i)) i1) == (W.two (Prod.fst ((Min.min (W.two (Prod.fst (W.pAt (W.Net.cuts n) i)) (Prod.snd (W.pAt (W.Net.cuts n) i)) 0) (W.two (Prod.fst (W.pAt (W.Net.cuts n) i)) (Prod.snd (W.pAt (W.Net.cuts n) i)) 1)), (Max.max (W.two (Prod.fst (W.pAt (W.Net.cuts n) i)) (Prod.snd (W.pAt (W.Net.cuts n) i)) 0) (W.two (Prod.fst (W.pAt (W.Net.cuts n) i)) (Prod.snd (W.pAt (W.Net.cuts n) i)) 1)))) (Prod.snd ((Min.min (W.two (Prod.fst (W.pAt (W.Net.cuts n) i)) (Prod.snd (W.pAt (W.Net.cuts n) i)) 0) (W.two (Prod.fst (W.pAt (W.Net.cuts n) i)) (Prod.snd (W.pAt (W.Net.cuts n) i)) 1)), (Max.max (W.two (Prod.fst (W.pAt (W.Net.cuts n) i)) (Prod.snd (W.pAt (W.Net.cuts n) i)) 0) (W.two (Prod.fst (W.pAt (W.Net.cuts n) i)) (Prod.snd (W.pAt (W.Net.cuts n) i)) 1)))) i1))))) = false →
   (((decide (((i : Nat) : Int) > (0 : Int))) = true →
    ((I64 (((i : Nat) : Int) - (1 : Int))) ∧
     ((((0 : Int) ≤ (((i : Nat) : Int) - (1 : Int))) ∧ ((((i : Nat) : Int) - (1 : Int)) < (((List.length (W.Net.cuts n)) : Nat) : Int))) ∧
     (Fun W.C W.P 36 [(W.prA (W.pAt (W.Net.cuts n) (Int.toNat (((i : Nat) : Int) - (1 : Int))))), (W.prA (W.pAt (W.Net.cuts n) i))] [] (AV.i (W.ordP ((W.two (Prod.fst (W.pAt (W.Net.cuts n) (Int.toNat (((i : Nat) : Int) - (1 : Int))))) (Prod.snd (W.pAt (W.Net.cuts n) (Int.toNat (((i : Nat) : Int) - (1 : Int))))) 0), (W.two (Prod.fst (W.pAt (W.Net.cuts n) (Int.toNat (((i : Nat) : Int) - (1 : Int))))) (Prod.snd (W.pAt (W.Net.cuts n) (Int.toNat (((i : Nat) : Int) - (1 : Int))))) 1)) ((W.two (Prod.fst (W.pAt (W.Net.cuts n) i)) (Prod.snd (W.pAt (W.Net.cuts n) i)) 0), (W.two (Prod.fst (W.pAt (W.Net.cuts n) i)) (Prod.snd (W.pAt (W.Net.cuts n) i)) 1)))) [] ∧
     (True ∧
     (((decide ((W.ordP ((W.two (Prod.fst (W.pAt (W.Net.cuts n) (Int.toNat (((i : Nat) : Int) - (1 : Int))))) (Prod.snd (W.pAt (W.Net.cuts n) (Int.toNat (((i : Nat) : Int) - (1 : Int))))) 0), (W.two (Prod.fst (W.pAt (W.Net.cuts n) (Int.toNat (((i : Nat) : Int) - (1 : Int))))) (Prod.snd (W.pAt (W.Net.cuts n) (Int.toNat (((i : Nat) : Int) - (1 : Int))))) 1)) ((W.two (Prod.fst (W.pAt (W.Net.cuts n) i)) (Prod.snd (W.pAt (W.Net.cuts n) i)) 0), (W.two (Prod.fst (W.pAt (W.Net.cuts n) i)) (Prod.snd (W.pAt (W.Net.cuts n) i)) 1))) ≥ (0 : Int))) = true →
     (Φ Ex.ret (St.mk [(1, (AV.ptr 1 [])), (2, (AV.v (Value.bool false))), (6, (AV.i ((i : Nat) : Int))), (7, (AV.ptr 7 [])), (38, (W.dP false (W.Net.cuts n))), (39, (AV.i (((List.length (W.Net.cuts n)) : Nat) : Int))), (40, (AV.i ((i : Nat) : Int))), (41, (AV.v (Value.bool true))), (74, (AV.v (Value.bool true)))] [(1, (Blk.c (W.netA false false n))), (7, (Blk.c (W.prA (W.pAt (W.Net.cuts n) i))))] [7, 1]))) ∧
     ((decide ((W.ordP ((W.two (Prod.fst (W.pAt (W.Net.cuts n) (Int.toNat (((i : Nat) : Int) - (1 : Int))))) (Prod.snd (W.pAt (W.Net.cuts n) (Int.toNat (((i : Nat) : Int) - (1 : Int))))) 0), (W.two (Prod.fst (W.pAt (W.Net.cuts n) (Int.toNat (((i : Nat) : Int) - (1 : Int))))) (Prod.snd (W.pAt (W.Net.cuts n) (Int.toNat (((i : Nat) : Int) - (1 : Int))))) 1)) ((W.two (Prod.fst (W.pAt (W.Net.cuts n) i)) (Prod.snd (W.pAt (W.Net.cuts n) i)) 0), (W.two (Prod.fst (W.pAt (W.Net.cuts n) i)) (Prod.snd (W.pAt (W.Net.cuts n) i)) 1))) ≥ (0 : Int))) = false →
     ((I64 (((i + 1) : Nat) : Int)) ∧
      ((RoundQ C 94 [] K (I_v1 n) (fun i => i ≤ n.cuts.length ∧ ∀ k, k < i → cutOK n k = true) (fun i => n.cuts.length - i) ((fun i => n.cuts.length - i) (i)) (rest_valid_1 K Φ)) Ex.normal (St.mk [(1, (AV.ptr 1 [])), (6, (AV.i ((i : Nat) : Int))), (7, (AV.ptr 7 [])), (38, (W.dP false (W.Net.cuts n))), (39, (AV.i (((List.length (W.Net.cuts n)) : Nat) : Int))), (40, (AV.i (((i + 1) : Nat) : Int))), (41, (AV.v (Value.bool true))), (74, (AV.v (Value.bool false)))] [(1, (Blk.c (W.netA false false n))), (7, (Blk.c (W.prA (W.pAt (W.Net.cuts n) i))))] [7, 1])))))))))) ∧
    ((decide (((i : Nat) : Int) > (0 : Int))) = false →
    ((I64 (((i + 1) : Nat) : Int)) ∧
     ((RoundQ C 94 [] K (I_v1 n) (fun i => i ≤ n.cuts.length ∧ ∀ k, k < i → cutOK n k = true) (fun i => n.cuts.length - i) ((fun i => n.cuts.length - i) (i)) (rest_valid_1 K Φ)) Ex.normal (St.mk [(1, (AV.ptr 1 [])), (6, (AV.i ((i : Nat) : Int))), (7, (AV.ptr 7 [])), (38, (W.dP false (W.Net.cuts n))), (39, (AV.i (((List.length (W.Net.cuts n)) : Nat) : Int))), (40, (AV.i (((i + 1) : Nat) : Int))), (41, (AV.v (Value.bool true))), (74, (AV.v (Value.bool false)))] [(1, (Blk.c (W.netA false false n))), (7, (Blk.c (W.prA (W.pAt (W.Net.cuts n) i))))] [7, 1]))))))))))))))))))))) ∧
 ((decide (((i : Nat) : Int) < (((List.length (W.Net.cuts n)) : Nat) : Int))) = false →
 (((decide ((Max.max (((List.length (W.Net.fly n)) : Nat) : Int) (((List.length (W.Net.cuts n)) : Nat) : Int)) ≤ (200 : Int))) = true →
  (((decide ((W.Net.next n) ≥ (1 : Int))) = true →
   (Φ Ex.ret (St.mk [(1, (AV.ptr 1 [])), (2, (AV.sb (decide ((W.Net.next n) ≤ (1000000000 : Int))))), (38, (W.dP false (W.Net.cuts n))), (39, (AV.i (((List.length (W.Net.cuts n)) : Nat) : Int))), (40, (AV.i ((i : Nat) : Int))), (41, (AV.v (Value.bool false)))] [(1, (Blk.c (W.netA false false n)))] [1]))) ∧
   ((decide ((W.Net.next n) ≥ (1 : Int))) = false →
   (Φ Ex.ret (St.mk [(1, (AV.ptr 1 [])), (2, (AV.v (Value.bool false))), (38, (W.dP false (W.Net.cuts n))), (39, (AV.i (((List.length (W.Net.cuts n)) : Nat) : Int))), (40, (AV.i ((i : Nat) : Int))), (41, (AV.v (Value.bool false)))] [(1, (Blk.c (W.netA false false n)))] [1]))))) ∧
  ((decide ((Max.max (((List.length (W.Net.fly n)) : Nat) : Int) (((List.length (W.Net.cuts n)) : Nat) : Int)) ≤ (200 : Int))) = false →
  (Φ Ex.ret (St.mk [(1, (AV.ptr 1 [])), (2, (AV.v (Value.bool false))), (38, (W.dP false (W.Net.cuts n))), (39, (AV.i (((List.length (W.Net.cuts n)) : Nat) : Int))), (40, (AV.i ((i : Nat) : Int))), (41, (AV.v (Value.bool false)))] [(1, (Blk.c (W.netA false false n)))] [1])))))) := by kernel_rfl
theorem rvalid_A (n : Net) (K : Nat) (Φ : Ex → St → Prop) :
  (Holds C P 113 [] K Φ (vc C w_rvalid b_rvalid [] (start [netD n] []) lf)) =
  (LoopOK W.C W.P 113 [] K (bodyAt b_rvalid [1, 0, 1, 0]) (St.mk [(0, (W.netA false false n)), (1, (AV.ptr 1 [])), (2, (AV.v (Value.bool false))), (3, (AV.i (0 : Int)))] [(1, (Blk.c (W.netA false false n)))] [1]) (fun (e : Ex) (S' : St) => Holds W.C W.P 113 [] K Φ (after W.C w_rvalid b_rvalid [1, 0, 1, 0] [] lf e S'))) := by kernel_rfl
noncomputable abbrev bd_rvalid_0 : Code := bodyAt (b_rvalid) [1, 0, 1, 0]
theorem ok_rvalid_0 : codeOK bd_rvalid_0 = true := by kernel_rfl
noncomputable abbrev rest_rvalid_0 (K : Nat) (Φ : Ex → St → Prop) : Ex → St → Prop := fun e S' => Holds C P 113 [] K Φ (after C w_rvalid (b_rvalid) [1, 0, 1, 0] [] lf e S')
theorem rvalid_L0 (n : Net) (i : Nat) (K : Nat) (Φ : Ex → St → Prop) :
  (Holds C P 113 [] K (RoundQ C 113 [] K (I_w0 n) (fun i => i ≤ n.fly.length ∧ ∀ k, k < i → flyOK n k = true) (fun i => n.fly.length - i) ((fun i => n.fly.length - i) (i)) (rest_rvalid_0 K Φ)) (vc C w_rvalid bd_rvalid_0 [] ((I_w0 n) (i)) lf)) =
  (((decide (((i : Nat) : Int) < (((List.length (W.Net.fly n)) : Nat) : Int))) = true →
 ((((0 : Int) ≤ ((i : Nat) : Int)) ∧ (((i : Nat) : Int) < (((List.length (W.Net.fly n)) : Nat) : Int))) ∧
  ((W.ShK) ∧
  (((decide ((Prod.fst (W.kAt (W.Net.fly n) i)) < (1 : Int))) = true →
  (Φ Ex.ret (St.mk [(1, (AV.ptr 1 [])), (2, (AV.v (Value.bool false))), (3, (AV.i ((i : Nat) : Int))), (4, (AV.ptr 4 [])), (11, (AV.v (Value.bool true))), (52, (AV.v (Value.bool true)))] [(1, (Blk.c (W.netA false false n))), (4, (Blk.c (W.pkA (W.kAt (W.Net.fly n) i))))] [4, 1]))) ∧
  ((decide ((Prod.fst (W.kAt (W.Net.fly n) i)) < (1 : Int))) = false →
  (((decide ((Prod.fst (W.kAt (W.Net.fly n) i)) ≥ (W.Net.next n))) = true →
   (Φ Ex.ret (St.mk [(1, (AV.ptr 1 [])), (2, (AV.v (Value.bool false))), (3, (AV.i ((i : Nat) : Int))), (4, (AV.ptr 4 [])), (11, (AV.v (Value.bool true))), (52, (AV.v (Value.bool true)))] [(1, (Blk.c (W.netA false false n))), (4, (Blk.c (W.pkA (W.kAt (W.Net.fly n) i))))] [4, 1]))) ∧
   ((decide ((Prod.fst (W.kAt (W.Net.fly n) i)) ≥ (W.Net.next n))) = false →
   (Fun W.C W.P 30 [(AV.i (Prod.fst (Prod.snd (W.kAt (W.Net.fly n) i)))), (AV.i (Prod.snd (Prod.snd (W.kAt (W.Net.fly n) i))))] [] (AV.sb (W.partsB (Prod.fst (Prod.snd (W.kAt (W.Net.fly n) i))) (Prod.snd (Prod.snd (W.kAt (W.Net.fly n) i))))) [] ∧
    (True ∧
    (((! (W.partsB (Prod.fst (Prod.snd (W.kAt (W.Net.fly n) i))) (Prod.snd (Prod.snd (W.kAt (W.Net.fly n) i))))) = true →
    (Φ Ex.ret (St.mk [(1, (AV.ptr 1 [])), (2, (AV.v (Value.bool false))), (3, (AV.i ((i : Nat) : Int))), (4, (AV.ptr 4 [])), (11, (AV.v (Value.bool true))), (52, (AV.v (Value.bool true)))] [(1, (Blk.c (W.netA false false n))), (4, (Blk.c (W.pkA (W.kAt (W.Net.fly n) i))))] [4, 1]))) ∧
    ((! (W.partsB (Prod.fst (Prod.snd (W.kAt (W.Net.fly n) i))) (Prod.snd (Prod.snd (W.kAt (W.Net.fly n) i))))) = false →
    (((decide (((i : Nat) : Int) > (0 : Int))) = true →
     ((I64 (((i : Nat) : Int) - (1 : Int))) ∧
      ((((0 : Int) ≤ (((i : Nat) : Int) - (1 : Int))) ∧ ((((i : Nat) : Int) - (1 : Int)) < (((List.length (W.Net.fly n)) : Nat) : Int))) ∧
      (((decide ((Prod.fst (W.kAt (W.Net.fly n) (Int.toNat (((i : Nat) : Int) - (1 : Int))))) ≥ (Prod.fst (W.kAt (W.Net.fly n) i)))) = true →
      (Φ Ex.ret (St.mk [(1, (AV.ptr 1 [])), (2, (AV.v (Value.bool false))), (3, (AV.i ((i : Nat) : Int))), (4, (AV.ptr 4 [])), (11, (AV.v (Value.bool true))), (52, (AV.v (Value.bool true)))] [(1, (Blk.c (W.netA false false n))), (4, (Blk.c (W.pkA (W.kAt (W.Net.fly n) i))))] [4, 1]))) ∧
      ((decide ((Prod.fst (W.kAt (W.Net.fly n) (Int.toNat (((i : Nat) : Int) - (1 : Int))))) ≥ (Prod.fst (W.kAt (W.Net.fly n) i)))) = false →
      ((I64 (((i + 1) : Nat) : Int)) ∧
       ((RoundQ C 113 [] K (I_w0 n) (fun i => i ≤ n.fly.length ∧ ∀ k, k < i → flyOK n k = true) (fun i => n.fly.length - i) ((fun i => n.fly.length - i) (i)) (rest_rvalid_0 K Φ)) Ex.normal (St.mk [(1, (AV.ptr 1 [])), (3, (AV.i (((i + 1) : Nat) : Int))), (4, (AV.ptr 4 [])), (11, (AV.v (Value.bool true))), (52, (AV.v (Value.bool false)))] [(1, (Blk.c (W.netA false false n))), (4, (Blk.c (W.pkA (W.kAt (W.Net.fly n) i))))] [4, 1])))))))) ∧
     ((decide (((i : Nat) : Int) > (0 : Int))) = false →
     ((I64 (((i + 1) : Nat) : Int)) ∧
      ((RoundQ C 113 [] K (I_w0 n) (fun i => i ≤ n.fly.length ∧ ∀ k, k < i → flyOK n k = true) (fun i => n.fly.length - i) ((fun i => n.fly.length - i) (i)) (rest_rvalid_0 K Φ)) Ex.normal (St.mk [(1, (AV.ptr 1 [])), (3, (AV.i (((i + 1) : Nat) : Int))), (4, (AV.ptr 4 [])), (11, (AV.v (Value.bool true))), (52, (AV.v (Value.bool false)))] [(1, (Blk.c (W.netA false false n))), (4, (Blk.c (W.pkA (W.kAt (W.Net.fly n) i))))] [4, 1])))))))))))))))) ∧
 ((decide (((i : Nat) : Int) < (((List.length (W.Net.fly n)) : Nat) : Int))) = false →
 (LoopOK W.C W.P 113 [] K (bodyAt b_rvalid [1, 1, 0, 1, 0]) (St.mk [(1, (AV.ptr 1 [])), (3, (AV.i ((i : Nat) : Int))), (5, (AV.i (0 : Int))), (11, (AV.v (Value.bool false)))] [(1, (Blk.c (W.netA false false n)))] [1]) (fun (e : Ex) (S' : St) => Holds W.C W.P 113 [] K Φ (after W.C w_rvalid b_rvalid [1, 1, 0, 1, 0] [] lf e S'))))) := by kernel_rfl
noncomputable abbrev bd_rvalid_1 : Code := bodyAt (b_rvalid) [1, 1, 0, 1, 0]
theorem ok_rvalid_1 : codeOK bd_rvalid_1 = true := by kernel_rfl
noncomputable abbrev rest_rvalid_1 (K : Nat) (Φ : Ex → St → Prop) : Ex → St → Prop := fun e S' => Holds C P 113 [] K Φ (after C w_rvalid (b_rvalid) [1, 1, 0, 1, 0] [] lf e S')
theorem rvalid_L1 (n : Net) (i : Nat) (K : Nat) (Φ : Ex → St → Prop) :
  (Holds C P 113 [] K (RoundQ C 113 [] K (I_w1 n) (fun i => i ≤ n.cuts.length ∧ ∀ k, k < i → cutOK n k = true) (fun i => n.cuts.length - i) ((fun i => n.cuts.length - i) (i)) (rest_rvalid_1 K Φ)) (vc C w_rvalid bd_rvalid_1 [] ((I_w1 n) (i)) lf)) =
  (((decide (((i : Nat) : Int) < (((List.length (W.Net.cuts n)) : Nat) : Int))) = true →
 ((((0 : Int) ≤ ((i : Nat) : Int)) ∧ (((i : Nat) : Int) < (((List.length (W.Net.cuts n)) : Nat) : Int))) ∧
  (((2 = 2) ∧ ((1 = 1) ∧ (∀ (i1 : Nat), ((i1 < 2) → ((true = true) ∧ (true = true)))))) ∧
  ((((0 : Int) ≤ (0 : Int)) ∧ ((0 : Int) < (2 : Int))) ∧
  ((((0 : Int) ≤ (1 : Int)) ∧ ((1 : Int) < (2 : Int))) ∧
  (Fun W.C W.P 30 [(AV.i (W.two (Prod.fst (W.pAt (W.Net.cuts n) i)) (Prod.snd (W.pAt (W.Net.cuts n) i)) 0)), (AV.i (W.two (Prod.fst (W.pAt (W.Net.cuts n) i)) (Prod.snd (W.pAt (W.Net.cuts n) i)) 1))] [] (AV.sb (W.partsB (W.two (Prod.fst (W.pAt (W.Net.cuts n) i)) (Prod.snd (W.pAt (W.Net.cuts n) i)) 0) (W.two (Prod.fst (W.pAt (W.Net.cuts n) i)) (Prod.snd (W.pAt (W.Net.cuts n) i)) 1))) [] ∧
  (True ∧
  (((! (W.partsB (W.two (Prod.fst (W.pAt (W.Net.cuts n) i)) (Prod.snd (W.pAt (W.Net.cuts n) i)) 0) (W.two (Prod.fst (W.pAt (W.Net.cuts n) i)) (Prod.snd (W.pAt (W.Net.cuts n) i)) 1))) = true →
  (Φ Ex.ret (St.mk [(1, (AV.ptr 1 [])), (2, (AV.v (Value.bool false))), (5, (AV.i ((i : Nat) : Int))), (6, (AV.ptr 6 [])), (57, (AV.v (Value.bool true))), (92, (AV.v (Value.bool true)))] [(1, (Blk.c (W.netA false false n))), (6, (Blk.c (W.prA (W.pAt (W.Net.cuts n) i))))] [6, 1]))) ∧
  ((! (W.partsB (W.two (Prod.fst (W.pAt (W.Net.cuts n) i)) (Prod.snd (W.pAt (W.Net.cuts n) i)) 0) (W.two (Prod.fst (W.pAt (W.Net.cuts n) i)) (Prod.snd (W.pAt (W.Net.cuts n) i)) 1))) = false →
  ((((0 : Int) ≤ (0 : Int)) ∧ ((0 : Int) < (2 : Int))) ∧
   ((((0 : Int) ≤ (1 : Int)) ∧ ((1 : Int) < (2 : Int))) ∧
   (((decide ((W.two (Prod.fst (W.pAt (W.Net.cuts n) i)) (Prod.snd (W.pAt (W.Net.cuts n) i)) 0) > (W.two (Prod.fst (W.pAt (W.Net.cuts n) i)) (Prod.snd (W.pAt (W.Net.cuts n) i)) 1))) = true →
   (Φ Ex.ret (St.mk [(1, (AV.ptr 1 [])), (2, (AV.v (Value.bool false))), (5, (AV.i ((i : Nat) : Int))), (6, (AV.ptr 6 [])), (57, (AV.v (Value.bool true))), (92, (AV.v (Value.bool true)))] [(1, (Blk.c (W.netA false false n))), (6, (Blk.c (W.prA (W.pAt (W.Net.cuts n) i))))] [6, 1]))) ∧
   ((decide ((W.two (Prod.fst (W.pAt (W.Net.cuts n) i)) (Prod.snd (W.pAt (W.Net.cuts n) i)) 0) > (W.two (Prod.fst (W.pAt (W.Net.cuts n) i)) (Prod.snd (W.pAt (W.Net.cuts n) i)) 1))) = false →
   (((decide (((i : Nat) : Int) > (0 : Int))) = true →
    ((I64 (((i : Nat) : Int) - (1 : Int))) ∧
     ((((0 : Int) ≤ (((i : Nat) : Int) - (1 : Int))) ∧ ((((i : Nat) : Int) - (1 : Int)) < (((List.length (W.Net.cuts n)) : Nat) : Int))) ∧
     (Fun W.C W.P 42 [(W.prA (W.pAt (W.Net.cuts n) (Int.toNat (((i : Nat) : Int) - (1 : Int))))), (W.prA (W.pAt (W.Net.cuts n) i))] [] (AV.sb (decide ((W.ordP ((W.two (Prod.fst (W.pAt (W.Net.cuts n) (Int.toNat (((i : Nat) : Int) - (1 : Int))))) (Prod.snd (W.pAt (W.Net.cuts n) (Int.toNat (((i : Nat) : Int) - (1 : Int))))) 0), (W.two (Prod.fst (W.pAt (W.Net.cuts n) (Int.toNat (((i : Nat) : Int) - (1 : Int))))) (Prod.snd (W.pAt (W.Net.cuts n) (Int.toNat (((i : Nat) : Int) - (1 : Int))))) 1)) ((W.two (Prod.fst (W.pAt (W.Net.cuts n) i)) (Prod.snd (W.pAt (W.Net.cuts n) i)) 0), (W.two (Prod.fst (W.pAt (W.Net.cuts n) i)) (Prod.snd (W.pAt (W.Net.cuts n) i)) 1))) < (0 : Int)))) [] ∧
     (True ∧
     (((! (decide ((W.ordP ((W.two (Prod.fst (W.pAt (W.Net.cuts n) (Int.toNat (((i : Nat) : Int) - (1 : Int))))) (Prod.snd (W.pAt (W.Net.cuts n) (Int.toNat (((i : Nat) : Int) - (1 : Int))))) 0), (W.two (Prod.fst (W.pAt (W.Net.cuts n) (Int.toNat (((i : Nat) : Int) - (1 : Int))))) (Prod.snd (W.pAt (W.Net.cuts n) (Int.toNat (((i : Nat) : Int) - (1 : Int))))) 1)) ((W.two (Prod.fst (W.pAt (W.Net.cuts n) i)) (Prod.snd (W.pAt (W.Net.cuts n) i)) 0), (W.two (Prod.fst (W.pAt (W.Net.cuts n) i)) (Prod.snd (W.pAt (W.Net.cuts n) i)) 1))) < (0 : Int)))) = true →
     (Φ Ex.ret (St.mk [(1, (AV.ptr 1 [])), (2, (AV.v (Value.bool false))), (5, (AV.i ((i : Nat) : Int))), (6, (AV.ptr 6 [])), (57, (AV.v (Value.bool true))), (92, (AV.v (Value.bool true)))] [(1, (Blk.c (W.netA false false n))), (6, (Blk.c (W.prA (W.pAt (W.Net.cuts n) i))))] [6, 1]))) ∧
     ((! (decide ((W.ordP ((W.two (Prod.fst (W.pAt (W.Net.cuts n) (Int.toNat (((i : Nat) : Int) - (1 : Int))))) (Prod.snd (W.pAt (W.Net.cuts n) (Int.toNat (((i : Nat) : Int) - (1 : Int))))) 0), (W.two (Prod.fst (W.pAt (W.Net.cuts n) (Int.toNat (((i : Nat) : Int) - (1 : Int))))) (Prod.snd (W.pAt (W.Net.cuts n) (Int.toNat (((i : Nat) : Int) - (1 : Int))))) 1)) ((W.two (Prod.fst (W.pAt (W.Net.cuts n) i)) (Prod.snd (W.pAt (W.Net.cuts n) i)) 0), (W.two (Prod.fst (W.pAt (W.Net.cuts n) i)) (Prod.snd (W.pAt (W.Net.cuts n) i)) 1))) < (0 : Int)))) = false →
     ((I64 (((i + 1) : Nat) : Int)) ∧
      ((RoundQ C 113 [] K (I_w1 n) (fun i => i ≤ n.cuts.length ∧ ∀ k, k < i → cutOK n k = true) (fun i => n.cuts.length - i) ((fun i => n.cuts.length - i) (i)) (rest_rvalid_1 K Φ)) Ex.normal (St.mk [(1, (AV.ptr 1 [])), (5, (AV.i (((i + 1) : Nat) : Int))), (6, (AV.ptr 6 [])), (57, (AV.v (Value.bool true))), (92, (AV.v (Value.bool false)))] [(1, (Blk.c (W.netA false false n))), (6, (Blk.c (W.prA (W.pAt (W.Net.cuts n) i))))] [6, 1])))))))))) ∧
    ((decide (((i : Nat) : Int) > (0 : Int))) = false →
    ((I64 (((i + 1) : Nat) : Int)) ∧
     ((RoundQ C 113 [] K (I_w1 n) (fun i => i ≤ n.cuts.length ∧ ∀ k, k < i → cutOK n k = true) (fun i => n.cuts.length - i) ((fun i => n.cuts.length - i) (i)) (rest_rvalid_1 K Φ)) Ex.normal (St.mk [(1, (AV.ptr 1 [])), (5, (AV.i (((i + 1) : Nat) : Int))), (6, (AV.ptr 6 [])), (57, (AV.v (Value.bool true))), (92, (AV.v (Value.bool false)))] [(1, (Blk.c (W.netA false false n))), (6, (Blk.c (W.prA (W.pAt (W.Net.cuts n) i))))] [6, 1])))))))))))))))))) ∧
 ((decide (((i : Nat) : Int) < (((List.length (W.Net.cuts n)) : Nat) : Int))) = false →
 (((decide ((((List.length (W.Net.fly n)) : Nat) : Int) ≤ (200 : Int))) = true →
  (((decide ((((List.length (W.Net.cuts n)) : Nat) : Int) ≤ (200 : Int))) = true →
   (((decide ((W.Net.next n) ≥ (1 : Int))) = true →
    (Φ Ex.ret (St.mk [(1, (AV.ptr 1 [])), (2, (AV.sb (decide ((W.Net.next n) ≤ (1000000000 : Int))))), (5, (AV.i ((i : Nat) : Int))), (57, (AV.v (Value.bool false)))] [(1, (Blk.c (W.netA false false n)))] [1]))) ∧
    ((decide ((W.Net.next n) ≥ (1 : Int))) = false →
    (Φ Ex.ret (St.mk [(1, (AV.ptr 1 [])), (2, (AV.v (Value.bool false))), (5, (AV.i ((i : Nat) : Int))), (57, (AV.v (Value.bool false)))] [(1, (Blk.c (W.netA false false n)))] [1]))))) ∧
   ((decide ((((List.length (W.Net.cuts n)) : Nat) : Int) ≤ (200 : Int))) = false →
   (Φ Ex.ret (St.mk [(1, (AV.ptr 1 [])), (2, (AV.v (Value.bool false))), (5, (AV.i ((i : Nat) : Int))), (57, (AV.v (Value.bool false)))] [(1, (Blk.c (W.netA false false n)))] [1]))))) ∧
  ((decide ((((List.length (W.Net.fly n)) : Nat) : Int) ≤ (200 : Int))) = false →
  (Φ Ex.ret (St.mk [(1, (AV.ptr 1 [])), (2, (AV.v (Value.bool false))), (5, (AV.i ((i : Nat) : Int))), (57, (AV.v (Value.bool false)))] [(1, (Blk.c (W.netA false false n)))] [1])))))) := by kernel_rfl
theorem flyOK_iff {n : Net} {i : Nat} : flyOK n i = true ↔ 1 ≤ (kAt n.fly i).1 ∧ (kAt n.fly i).1 < n.next ∧ partsB (kAt n.fly i).2.1 (kAt n.fly i).2.2 = true ∧ (i = 0 ∨ (kAt n.fly (i - 1)).1 < (kAt n.fly i).1) := by
  simp only [flyOK, Bool.and_eq_true, Bool.or_eq_true, decide_eq_true_eq, and_assoc]
theorem cutOK_iff {n : Net} {i : Nat} : cutOK n i = true ↔ partsB (pAt n.cuts i).1 (pAt n.cuts i).2 = true ∧ (pAt n.cuts i).1 ≤ (pAt n.cuts i).2 ∧ (i = 0 ∨ ordP (pAt n.cuts (i - 1)) (pAt n.cuts i) < 0) := by
  simp only [cutOK, Bool.and_eq_true, Bool.or_eq_true, decide_eq_true_eq, and_assoc]
theorem vB_f {n : Net} {i : Nat} (hi : i < n.fly.length) (h : ¬ flyOK n i = true) : vB n = false := by
  have : (List.range n.fly.length).all (flyOK n) = false := Bool.eq_false_iff.2 fun ha => h (List.all_eq_true.1 ha i (List.mem_range.2 hi))
  unfold vB; rw [this]; rfl
theorem vB_c {n : Net} {i : Nat} (hi : i < n.cuts.length) (h : ¬ cutOK n i = true) : vB n = false := by
  have : (List.range n.cuts.length).all (cutOK n) = false := Bool.eq_false_iff.2 fun ha => h (List.all_eq_true.1 ha i (List.mem_range.2 hi))
  unfold vB; rw [this, Bool.and_false]; rfl
theorem vB_all {n : Net} (h1 : ∀ i, i < n.fly.length → flyOK n i = true) (h2 : ∀ i, i < n.cuts.length → cutOK n i = true) : vB n = (decide (n.fly.length ≤ 200) && decide (n.cuts.length ≤ 200) && decide (1 ≤ n.next) && decide (n.next ≤ 1000000000)) := by
  have e1 : (List.range n.fly.length).all (flyOK n) = true := List.all_eq_true.2 fun i hi => h1 i (List.mem_range.1 hi)
  have e2 : (List.range n.cuts.length).all (cutOK n) = true := List.all_eq_true.2 fun i hi => h2 i (List.mem_range.1 hi)
  unfold vB; rw [e1, e2, Bool.true_and, Bool.true_and]
theorem rpart_fun (a : Int) : Fun C P F_rpart [.i a] [] (.sb (decide (0 ≤ a) && decide (a ≤ 1000000000))) [] := by
  refine in_rpart (W := w_rpart) rfl 0 (by simp) rfl (fun id h => absurd rfl h) ?_
  refine of_eq (rpart_A a 0 _) ⟨fun h => post_tmp rfl (sm_sb ?_), fun h => post_tmp rfl (sm_b ?_)⟩
  · rw [show decide (0 ≤ a) = true from h, Bool.true_and]
  · rw [show decide (0 ≤ a) = false from h, Bool.false_and]
theorem rparts_fun (a b : Int) : Fun C P F_rparts [.i a, .i b] [] (.sb (partsB a b)) [] := by
  refine in_rparts (W := w_rparts) rfl 0 (by simp) rfl (fun id h => absurd rfl h) ?_
  refine of_eq (rparts_A a b 0 _) ⟨rpart_fun a, trivial, fun h => ⟨rpart_fun b, trivial, fun h2 => post_tmp rfl (sm_sb ?_), fun h2 => post_tmp rfl (sm_b ?_)⟩, fun h => post_tmp rfl (sm_b ?_)⟩
  · simp only [Bool.and_eq_true, decide_eq_true_eq] at h h2
    unfold partsB
    simp [h.1, h.2, h2.1, h2.2, bne]
    by_cases e : a = b <;> simp [e]
  · congr 1
    symm
    refine Bool.eq_false_iff.2 fun hp => ?_
    simp only [partsB, Bool.and_eq_true, decide_eq_true_eq] at hp
    rw [decide_eq_true (show 0 ≤ b by omega), decide_eq_true (show b ≤ 1000000000 by omega)] at h2
    cases h2
  · congr 1
    symm
    refine Bool.eq_false_iff.2 fun hp => ?_
    simp only [partsB, Bool.and_eq_true, decide_eq_true_eq] at hp
    rw [decide_eq_true (show 0 ≤ a by omega), decide_eq_true (show a ≤ 1000000000 by omega)] at h
    cases h
theorem less_fun (x y : PI) : Fun C P F_less [prA x, prA y] [] (.sb (decide (ordP x y < 0))) [] := by
  refine in_less (W := w_less) rfl 0 (by simp) rfl (fun id h => absurd rfl h) ?_
  refine of_eq (less_A x y 0 _) ⟨(by first | omega | decide | (unfold I64; omega)), (by first | omega | decide | (unfold I64; omega)), fun h => post_tmp rfl (sm_b ?_), fun h => ⟨(by first | omega | decide | (unfold I64; omega)), (by first | omega | decide | (unfold I64; omega)), fun h2 => ⟨(by first | omega | decide | (unfold I64; omega)), (by first | omega | decide | (unfold I64; omega)), post_tmp rfl (sm_sb ?_)⟩, fun h2 => post_tmp rfl (sm_b ?_)⟩⟩
  · rw [two_0, two_0] at h
    rw [decide_eq_true (ordP_lt.2 (.inl (of_decide_eq_true h)))]
  · rw [two_0, two_0] at h h2
    have h := of_decide_eq_false h
    have h2 := eq_of_beq h2
    refine decide_eq_decide.2 ?_
    rw [ordP_lt, two_1, two_1]
    omega
  · rw [two_0, two_0] at h h2
    have h := of_decide_eq_false h
    have h2 : x.1 ≠ y.1 := fun e => by rw [e] at h2; simp at h2
    rw [decide_eq_false]
    rw [ordP_lt]; omega
theorem pr_min {x : PI} : (List.all (List.range 2) fun i1 => two x.1 x.2 i1 == two (ofI x.1 x.2).1 (ofI x.1 x.2).2 i1) = decide (x.1 ≤ x.2) := by
  show (List.all [0, 1] fun i => (two x.1 x.2 i == two (min x.1 x.2) (max x.1 x.2) i)) = _
  simp only [List.all_cons, List.all_nil, two_0, two_1, Bool.and_true]
  by_cases h : x.1 ≤ x.2
  · rw [decide_eq_true h, Int.min_eq_left h, Int.max_eq_right h]; simp
  · rw [decide_eq_false h, Int.min_eq_right (by omega)]
    have : (x.1 == x.2) = false := by simp; omega
    rw [this]; rfl
theorem valid_fun (n : Net) (hf : n.fly.length < 2 ^ 40) (hc : n.cuts.length < 2 ^ 40) : Fun C P F_valid [netD n] [] (.sb (vB n)) [] := by
  refine in_valid (W := w_valid) rfl 0 (by simp) rfl (fun id h => absurd rfl h) ?_
  refine of_eq (valid_A n 0 _) ?_
  refine loop_inv (W := w_valid) ctx mixed ok_valid_0 (I_v0 n) (fun i => i ≤ n.fly.length ∧ ∀ k, k < i → flyOK n k = true) (fun i => n.fly.length - i) 0 ⟨Nat.zero_le _, fun k hk => by omega⟩ ?_ fun i hi => ?_
  · exact ent_of [(1, 1)] rfl (tm_cons rfl (sm_ptr rfl) (tm_cons rfl (sm_same rfl) (tm_cons rfl (sm_same rfl) (tm_cons rfl (sm_same rfl) (tm_cons rfl (sm_same rfl) tm_nil))))) (hp_cons rfl rfl (sm_same rfl) hp_nil)
  obtain ⟨hi, hz⟩ := hi
  refine of_eq (valid_L0 n i 0 _) ⟨fun h => ?_, fun h => ?_⟩
  · simp only [decide_eq_true_eq] at h
    have hlt : i < n.fly.length := by omega
    have h0 : 0 ≤ lastK n i := by
      unfold lastK
      split
      · exact Int.le_refl _
      · have := (flyOK_iff.1 (hz (i - 1) (by omega))).1; omega
    have hl : flyOK n i = true → lastK n i < (kAt n.fly i).1 := fun h => by
      have := flyOK_iff.1 h
      unfold lastK
      split <;> omega
    refine ⟨(by first | omega | decide | (unfold I64; omega)), shpK, fun h1 => ?_, fun h1 => ⟨fun h2 => ?_, fun h2 => ⟨parts_fun _ _, trivial, fun h3 => ?_, fun h3 => ⟨(by first | omega | decide | (unfold I64; omega)), ?_⟩⟩⟩⟩
    · simp only [decide_eq_true_eq] at h1
      exact post_tmp rfl (sm_b (by rw [vB_f hlt fun hh => by have := hl hh; omega]))
    · simp only [decide_eq_true_eq] at h2
      exact post_tmp rfl (sm_b (by rw [vB_f hlt fun hh => by have := flyOK_iff.1 hh; omega]))
    · have h3 := bnt h3
      exact post_tmp rfl (sm_b (by rw [vB_f hlt fun hh => by have := (flyOK_iff.1 hh).2.2.1; rw [h3] at this; cases this]))
    · have h3 := bnf h3
      simp only [decide_eq_false_iff_not] at h1 h2
      have hok : flyOK n i = true := flyOK_iff.2 ⟨by omega, by omega, h3, by
        unfold lastK at h1
        split at h1
        · exact .inl (by assumption)
        · exact .inr (by omega)⟩
      exact round_end (i + 1) ⟨by omega, fun k hk => by
        by_cases e : k = i
        · rw [e]; exact hok
        · exact hz k (by omega)⟩ (ent_of [(1, 1)] rfl (tm_cons rfl (sm_ptr rfl) (tm_cons rfl (sm_int (by simp [lastK])) (tm_cons rfl (sm_same rfl) (tm_cons rfl (sm_same rfl) (tm_cons rfl (sm_same rfl) tm_nil))))) (hp_cons rfl rfl (sm_same rfl) hp_nil)) (by dsimp only; omega)
  simp only [decide_eq_false_iff_not] at h
  obtain rfl : i = n.fly.length := by omega
  refine loop_inv (W := w_valid) ctx mixed ok_valid_1 (I_v1 n) (fun i => i ≤ n.cuts.length ∧ ∀ k, k < i → cutOK n k = true) (fun i => n.cuts.length - i) 0 ⟨Nat.zero_le _, fun k hk => by omega⟩ ?_ fun i hi => ?_
  · exact ent_of [(1, 1)] rfl (tm_cons rfl (sm_ptr rfl) (tm_cons rfl (sm_same rfl) (tm_cons rfl (sm_same rfl) (tm_cons rfl (sm_same rfl) tm_nil)))) (hp_cons rfl rfl (sm_same rfl) hp_nil)
  obtain ⟨hi, hy⟩ := hi
  refine of_eq (valid_L1 n i 0 _) ?_
  have e1 : ∀ x : PI, ((two x.1 x.2 0, two x.1 x.2 1) : PI) = x := fun x => rfl
  simp only [two_0, two_1]
  refine ⟨fun h => ?_, fun h => ?_⟩
  · simp only [decide_eq_true_eq] at h
    have hlt : i < n.cuts.length := by omega
    have hm : (List.all (List.range 2) fun i1 => two (pAt n.cuts i).1 (pAt n.cuts i).2 i1 == two (min (pAt n.cuts i).1 (pAt n.cuts i).2) (max (pAt n.cuts i).1 (pAt n.cuts i).2) i1) = decide ((pAt n.cuts i).1 ≤ (pAt n.cuts i).2) := pr_min
    have ht : ((i : Int) - 1).toNat = i - 1 := by omega
    rw [hm, ht]
    have hnext : cutOK n i = true → ∀ k, k < i + 1 → cutOK n k = true := fun hok k hk => by
      by_cases e : k = i
      · rw [e]; exact hok
      · exact hy k (by omega)
    refine ⟨(by first | omega | decide | (unfold I64; omega)), (by simp), (by first | omega | decide | (unfold I64; omega)), (by first | omega | decide | (unfold I64; omega)), parts_fun _ _, trivial, fun h1 => ?_, fun h1 => ⟨(by first | omega | decide | (unfold I64; omega)), (by first | omega | decide | (unfold I64; omega)), ofP_fun _ _, fun _ _ => trivial, (by simp), fun h2 => ?_, fun h2 => ⟨fun h3 => ?_, fun h3 => ⟨(by first | omega | decide | (unfold I64; omega)), ?_⟩⟩⟩⟩
    · have h1 := bnt h1
      exact post_tmp rfl (sm_b (by rw [vB_c hlt fun hh => by have := (cutOK_iff.1 hh).1; rw [h1] at this; cases this]))
    · have h2 := of_decide_eq_false (bnt h2)
      exact post_tmp rfl (sm_b (by rw [vB_c hlt fun hh => h2 (cutOK_iff.1 hh).2.1]))
    · have h3 := of_decide_eq_true h3
      have h1 := bnf h1
      have h2 := of_decide_eq_true (bnf h2)
      refine ⟨(by first | omega | decide | (unfold I64; omega)), (by first | omega | decide | (unfold I64; omega)), order_fun _ _, trivial, fun h4 => ?_, fun h4 => ⟨(by first | omega | decide | (unfold I64; omega)), ?_⟩⟩
      · have h4 : 0 ≤ ordP (pAt n.cuts (i - 1)) (pAt n.cuts i) := of_decide_eq_true h4
        exact post_tmp rfl (sm_b (by rw [vB_c hlt fun hh => by have := (cutOK_iff.1 hh).2.2; omega]))
      · have h4 : ¬ 0 ≤ ordP (pAt n.cuts (i - 1)) (pAt n.cuts i) := of_decide_eq_false h4
        exact round_end (i + 1) ⟨by omega, hnext (cutOK_iff.2 ⟨h1, h2, .inr (by omega)⟩)⟩ (ent_of [(1, 1)] rfl (tm_cons rfl (sm_ptr rfl) (tm_cons rfl (sm_same rfl) (tm_cons rfl (sm_same rfl) (tm_cons rfl (sm_same rfl) tm_nil)))) (hp_cons rfl rfl (sm_same rfl) hp_nil)) (by omega)
    · have h3 := of_decide_eq_false h3
      have h1 := bnf h1
      have h2 := of_decide_eq_true (bnf h2)
      exact round_end (i + 1) ⟨by omega, hnext (cutOK_iff.2 ⟨h1, h2, .inl (by omega)⟩)⟩ (ent_of [(1, 1)] rfl (tm_cons rfl (sm_ptr rfl) (tm_cons rfl (sm_same rfl) (tm_cons rfl (sm_same rfl) (tm_cons rfl (sm_same rfl) tm_nil)))) (hp_cons rfl rfl (sm_same rfl) hp_nil)) (by omega)
  · simp only [decide_eq_false_iff_not] at h
    obtain rfl : i = n.cuts.length := by omega
    rw [vB_all hz hy]
    refine ⟨fun h1 => ⟨fun h2 => post_tmp rfl (sm_sb ?_), fun h2 => post_tmp rfl (sm_b ?_)⟩, fun h1 => post_tmp rfl (sm_b ?_)⟩
    · have h1 := of_decide_eq_true h1
      have h2 := of_decide_eq_true h2
      rw [decide_eq_true (show n.fly.length ≤ 200 by omega), decide_eq_true (show n.cuts.length ≤ 200 by omega), decide_eq_true (show 1 ≤ n.next by omega)]; rfl
    · have h2 := of_decide_eq_false h2
      rw [decide_eq_false (show ¬ 1 ≤ n.next by omega), Bool.and_false, Bool.false_and]
    · have h1 := of_decide_eq_false h1
      congr 1
      symm
      refine Bool.eq_false_iff.2 fun hp => ?_
      simp only [Bool.and_eq_true, decide_eq_true_eq] at hp
      omega
theorem rvalid_fun (n : Net) (hf : n.fly.length < 2 ^ 40) (hc : n.cuts.length < 2 ^ 40) : Fun C P F_rvalid [netD n] [] (.sb (vB n)) [] := by
  refine in_rvalid (W := w_rvalid) rfl 0 (by simp) rfl (fun id h => absurd rfl h) ?_
  refine of_eq (rvalid_A n 0 _) ?_
  refine loop_inv (W := w_rvalid) ctx mixed ok_rvalid_0 (I_w0 n) (fun i => i ≤ n.fly.length ∧ ∀ k, k < i → flyOK n k = true) (fun i => n.fly.length - i) 0 ⟨Nat.zero_le _, fun k hk => by omega⟩ ?_ fun i hi => ?_
  · exact ent_of [(1, 1)] rfl (tm_cons rfl (sm_ptr rfl) (tm_cons rfl (sm_same rfl) tm_nil)) (hp_cons rfl rfl (sm_same rfl) hp_nil)
  obtain ⟨hi, hz⟩ := hi
  refine of_eq (rvalid_L0 n i 0 _) ?_
  have ht : ((i : Int) - 1).toNat = i - 1 := by omega
  rw [ht]
  refine ⟨fun h => ?_, fun h => ?_⟩
  · simp only [decide_eq_true_eq] at h
    have hlt : i < n.fly.length := by omega
    have hnext : flyOK n i = true → ∀ k, k < i + 1 → flyOK n k = true := fun hok k hk => by
      by_cases e : k = i
      · rw [e]; exact hok
      · exact hz k (by omega)
    refine ⟨(by first | omega | decide | (unfold I64; omega)), shpK, fun h1 => ?_, fun h1 => ⟨fun h2 => ?_, fun h2 => ⟨rparts_fun _ _, trivial, fun h3 => ?_, fun h3 => ⟨fun h4 => ?_, fun h4 => ⟨(by first | omega | decide | (unfold I64; omega)), ?_⟩⟩⟩⟩⟩
    · have h1 := of_decide_eq_true h1
      exact post_tmp rfl (sm_b (by rw [vB_f hlt fun hh => by have := flyOK_iff.1 hh; omega]))
    · have h2 := of_decide_eq_true h2
      exact post_tmp rfl (sm_b (by rw [vB_f hlt fun hh => by have := flyOK_iff.1 hh; omega]))
    · have h3 := bnt h3
      exact post_tmp rfl (sm_b (by rw [vB_f hlt fun hh => by have := (flyOK_iff.1 hh).2.2.1; rw [h3] at this; cases this]))
    · have h3 := bnf h3
      have h1 := of_decide_eq_false h1
      have h2 := of_decide_eq_false h2
      have h4 := of_decide_eq_true h4
      refine ⟨(by first | omega | decide | (unfold I64; omega)), (by first | omega | decide | (unfold I64; omega)), fun h5 => ?_, fun h5 => ⟨(by first | omega | decide | (unfold I64; omega)), ?_⟩⟩
      · have h5 := of_decide_eq_true h5
        exact post_tmp rfl (sm_b (by rw [vB_f hlt fun hh => by have := flyOK_iff.1 hh; omega]))
      · have h5 := of_decide_eq_false h5
        exact round_end (i + 1) ⟨by omega, hnext (flyOK_iff.2 ⟨by omega, by omega, h3, .inr (by omega)⟩)⟩ (ent_of [(1, 1)] rfl (tm_cons rfl (sm_ptr rfl) (tm_cons rfl (sm_same rfl) tm_nil)) (hp_cons rfl rfl (sm_same rfl) hp_nil)) (by dsimp only; omega)
    · have h3 := bnf h3
      have h1 := of_decide_eq_false h1
      have h2 := of_decide_eq_false h2
      have h4 := of_decide_eq_false h4
      exact round_end (i + 1) ⟨by omega, hnext (flyOK_iff.2 ⟨by omega, by omega, h3, .inl (by omega)⟩)⟩ (ent_of [(1, 1)] rfl (tm_cons rfl (sm_ptr rfl) (tm_cons rfl (sm_same rfl) tm_nil)) (hp_cons rfl rfl (sm_same rfl) hp_nil)) (by dsimp only; omega)
  simp only [decide_eq_false_iff_not] at h
  obtain rfl : i = n.fly.length := by omega
  refine loop_inv (W := w_rvalid) ctx mixed ok_rvalid_1 (I_w1 n) (fun i => i ≤ n.cuts.length ∧ ∀ k, k < i → cutOK n k = true) (fun i => n.cuts.length - i) 0 ⟨Nat.zero_le _, fun k hk => by omega⟩ ?_ fun i hi => ?_
  · exact ent_of [(1, 1)] rfl (tm_cons rfl (sm_ptr rfl) (tm_cons rfl (sm_same rfl) tm_nil)) (hp_cons rfl rfl (sm_same rfl) hp_nil)
  obtain ⟨hi, hy⟩ := hi
  refine of_eq (rvalid_L1 n i 0 _) ?_
  simp only [two_0, two_1]
  have ht : ((i : Int) - 1).toNat = i - 1 := by omega
  rw [ht]
  refine ⟨fun h => ?_, fun h => ?_⟩
  · simp only [decide_eq_true_eq] at h
    have hlt : i < n.cuts.length := by omega
    have hnext : cutOK n i = true → ∀ k, k < i + 1 → cutOK n k = true := fun hok k hk => by
      by_cases e : k = i
      · rw [e]; exact hok
      · exact hy k (by omega)
    refine ⟨(by first | omega | decide | (unfold I64; omega)), (by simp), (by first | omega | decide | (unfold I64; omega)), (by first | omega | decide | (unfold I64; omega)), rparts_fun _ _, trivial, fun h1 => ?_, fun h1 => ⟨(by first | omega | decide | (unfold I64; omega)), (by first | omega | decide | (unfold I64; omega)), fun h2 => ?_, fun h2 => ⟨fun h3 => ?_, fun h3 => ⟨(by first | omega | decide | (unfold I64; omega)), ?_⟩⟩⟩⟩
    · have h1 := bnt h1
      exact post_tmp rfl (sm_b (by rw [vB_c hlt fun hh => by have := (cutOK_iff.1 hh).1; rw [h1] at this; cases this]))
    · have h2 := of_decide_eq_true h2
      exact post_tmp rfl (sm_b (by rw [vB_c hlt fun hh => by have := (cutOK_iff.1 hh).2.1; omega]))
    · have h3 := of_decide_eq_true h3
      have h1 := bnf h1
      have h2 := of_decide_eq_false h2
      refine ⟨(by first | omega | decide | (unfold I64; omega)), (by first | omega | decide | (unfold I64; omega)), less_fun _ _, trivial, fun h4 => ?_, fun h4 => ⟨(by first | omega | decide | (unfold I64; omega)), ?_⟩⟩
      · have h4 : ¬ ordP (pAt n.cuts (i - 1)) (pAt n.cuts i) < 0 := of_decide_eq_false (bnt h4)
        exact post_tmp rfl (sm_b (by rw [vB_c hlt fun hh => by have := (cutOK_iff.1 hh).2.2; omega]))
      · have h4 : ordP (pAt n.cuts (i - 1)) (pAt n.cuts i) < 0 := of_decide_eq_true (bnf h4)
        exact round_end (i + 1) ⟨by omega, hnext (cutOK_iff.2 ⟨h1, by omega, .inr h4⟩)⟩ (ent_of [(1, 1)] rfl (tm_cons rfl (sm_ptr rfl) (tm_cons rfl (sm_same rfl) tm_nil)) (hp_cons rfl rfl (sm_same rfl) hp_nil)) (by omega)
    · have h3 := of_decide_eq_false h3
      have h1 := bnf h1
      have h2 := of_decide_eq_false h2
      exact round_end (i + 1) ⟨by omega, hnext (cutOK_iff.2 ⟨h1, by omega, .inl (by omega)⟩)⟩ (ent_of [(1, 1)] rfl (tm_cons rfl (sm_ptr rfl) (tm_cons rfl (sm_same rfl) tm_nil)) (hp_cons rfl rfl (sm_same rfl) hp_nil)) (by omega)
  · simp only [decide_eq_false_iff_not] at h
    obtain rfl : i = n.cuts.length := by omega
    rw [vB_all hz hy]
    refine ⟨fun h1 => ⟨fun h2 => ⟨fun h3 => post_tmp rfl (sm_sb ?_), fun h3 => post_tmp rfl (sm_b ?_)⟩, fun h2 => post_tmp rfl (sm_b ?_)⟩, fun h1 => post_tmp rfl (sm_b ?_)⟩
    · have h1 := of_decide_eq_true h1
      have h2 := of_decide_eq_true h2
      have h3 := of_decide_eq_true h3
      rw [decide_eq_true (show n.fly.length ≤ 200 by omega), decide_eq_true (show n.cuts.length ≤ 200 by omega), decide_eq_true (show 1 ≤ n.next by omega)]; rfl
    · have h3 := of_decide_eq_false h3
      rw [decide_eq_false (show ¬ 1 ≤ n.next by omega), Bool.and_false, Bool.false_and]
    · have h2 := of_decide_eq_false h2
      rw [decide_eq_false (show ¬ n.cuts.length ≤ 200 by omega), Bool.and_false, Bool.false_and, Bool.false_and]
    · have h1 := of_decide_eq_false h1
      rw [decide_eq_false (show ¬ n.fly.length ≤ 200 by omega), Bool.false_and, Bool.false_and, Bool.false_and]
end Go.Bu.W

namespace Go.Bu.W
def rfindI (n : Net) (id : Int) : Int := if findB n id then (findI n id : Nat) else -1
def cutI (n : Net) (a b : Int) : Nat := bsI (cP (ofI a b)) n.cuts
def rcutI (n : Net) (a b : Int) : Int := if reachN n a b then -1 else (cutI n a b : Nat)
def withoutN (n : Net) (i : Nat) : Net := ⟨n.fly.eraseIdx i, n.cuts, n.next⟩
abbrev takA (n : Net) (p : Pk) (e : Int) : AV := .st [netD n, pkA p, .i e]
abbrev senA (n : Net) (i e : Int) : AV := .st [netD n, .i i, .i e]
def crN7 (g : Nat) (args : List AV) (H : List (Nat × Blk)) : Option (AV × List (Nat × Blk)) :=
  sel (Nat.beq g F_rfind) (crF1 (fun _ n id => some (.i (rfindI n id), [])) args) <|
  sel (Nat.beq g F_rcut) (crF2 (fun n a b => some (.i (rcutI n a b), [])) args) <|
  sel (Nat.beq g F_rreach) (crF2 (fun n a b => some (.sb (reachN n a b), [])) args) <|
  sel (Nat.beq g F_without) (crF1 (fun _ n i => some (netD (withoutN n i.toNat), [])) args) <|
  sel (Nat.beq g F_rsend) (crF2 (fun n a b => some (senA (sendN n a b) (sendI n a b) (sendE n a b), [])) args) <|
  sel (Nat.beq g F_rtake) (crF1 (fun _ n id => some (takA (takeN n id) (takeP n id) (takeE n id), [])) args) <|
  sel (Nat.beq g F_rlose) (crF1 (fun _ n id => some (takA (loseN n id) (0, 0, 0) (loseE n id), [])) args) <|
  sel (Nat.beq g F_rdouble) (crF1 (fun _ n id => some (takA (dblN n id) (0, 0, 0) (dblE n id), [])) args) <|
  sel (Nat.beq g F_rsever) (crF2 (fun n a b => some (takA (sevN n a b) (0, 0, 0) (sevE n a b), [])) args) <|
  sel (Nat.beq g F_rheal) (crF2 (fun n a b => some (takA (healN n a b) (0, 0, 0) (healE a b), [])) args) <|
  crN6 g args H
def wayR (keep : List Nat) (nt : Nat) (cuts : List Nat) : Way := ⟨crN7, byrefI, keep, [], nt, cuts⟩
def w_rfind : Way := wayR [0, 1, 2, 4, 5, 10, 20] 22 []
def w_rcut : Way := wayR [0, 1, 2, 3, 6, 7, 12, 27] 29 []
def w_rreach : Way := wayR [0, 1, 2, 3, 6] 12 []
def w_without : Way := wayR [0, 1, 2, 4, 5] 24 []
def w_rsend : Way := wayR [0, 1, 2, 3, 6, 7, 11, 22] 46 []
def w_rtake : Way := wayR [0, 1, 2, 4, 5, 6, 11, 25] 33 []
def w_rlose : Way := wayR [0, 1, 2, 4, 5, 10] 17 []
def w_rdouble : Way := wayR [0, 1, 2, 4, 5, 6, 11] 33 []
def w_rsever : Way := wayR [0, 1, 2, 3, 6, 7, 8, 9, 13, 20, 26, 49] 73 []
def w_rheal : Way := wayR [0, 1, 2, 3, 6, 7, 8, 12, 20] 42 []
def I_rf (n : Net) (id : Int) (i : Nat) : St := { tm := [(1, .i id), (2, .ptr 2 []), (5, i64 i)], hp := [(2, .c (netD n))], seen := [2] }
def I_rc (n : Net) (a b : Int) (i : Nat) : St := { tm := [(1, .i a), (2, .i b), (3, .ptr 3 []), (7, i64 i)], hp := [(3, .c (netD n))], seen := [3] }
def I_rs (n : Net) (a b : Int) (z : AV) (i : Nat) : St := { tm := [(3, .ptr 3 []), (6, .ptr 6 []), (7, .ptr 7 []), (8, i64 i)], hp := [(3, .c (netD n)), (6, .c z), (7, .c (prA (ofI a b)))], seen := [3, 6, 7] }
abbrev zT : AV := .st [.st [.dat 0 true 0 (fun _ => .v undef), .dat 0 true 0 (fun _ => .v undef), .i 0], pkA (0, 0, 0), .i 0]

theorem rfind_A (n : Net) (id : Int) (K : Nat) (Φ : Ex → St → Prop) :
  (Holds C P 22 [] K Φ (vc C w_rfind b_rfind [] (start [netD n, .i id] []) lf)) =
  (LoopOK W.C W.P 22 [] K (bodyAt b_rfind [1, 0, 1, 0]) (St.mk [(0, (W.netA false false n)), (1, (AV.i id)), (2, (AV.ptr 2 [])), (4, (AV.i (0 : Int))), (5, (AV.i (0 : Int)))] [(2, (Blk.c (W.netA false false n)))] [2]) (fun (e : Ex) (S' : St) => Holds W.C W.P 22 [] K Φ (after W.C w_rfind b_rfind [1, 0, 1, 0] [] lf e S'))) := by kernel_rfl
noncomputable abbrev bd_rfind_0 : Code := bodyAt (b_rfind) [1, 0, 1, 0]
theorem ok_rfind_0 : codeOK bd_rfind_0 = true := by kernel_rfl
noncomputable abbrev rest_rfind_0 (K : Nat) (Φ : Ex → St → Prop) : Ex → St → Prop := fun e S' => Holds C P 22 [] K Φ (after C w_rfind (b_rfind) [1, 0, 1, 0] [] lf e S')
theorem rfind_L0 (n : Net) (id : Int) (i : Nat) (K : Nat) (Φ : Ex → St → Prop) :
  (Holds C P 22 [] K (RoundQ C 22 [] K (I_rf n id) (fun i => i ≤ n.fly.length ∧ ∀ k, k < i → (kAt n.fly k).1 ≠ id) (fun i => n.fly.length - i) ((fun i => n.fly.length - i) (i)) (rest_rfind_0 K Φ)) (vc C w_rfind bd_rfind_0 [] ((I_rf n id) (i)) lf)) =
  (((decide (((i : Nat) : Int) < (((List.length (W.Net.fly n)) : Nat) : Int))) = true →
 ((((0 : Int) ≤ ((i : Nat) : Int)) ∧ (((i : Nat) : Int) < (((List.length (W.Net.fly n)) : Nat) : Int))) ∧
  ((((Prod.fst (W.kAt (W.Net.fly n) i)) == id) = true →
  (Φ Ex.ret (St.mk [(1, (AV.i id)), (2, (AV.ptr 2 [])), (4, (AV.i ((i : Nat) : Int))), (5, (AV.i ((i : Nat) : Int))), (10, (AV.v (Value.bool true))), (20, (AV.v (Value.bool true)))] [(2, (Blk.c (W.netA false false n)))] [2]))) ∧
  (((Prod.fst (W.kAt (W.Net.fly n) i)) == id) = false →
  ((I64 (((i + 1) : Nat) : Int)) ∧
   ((RoundQ C 22 [] K (I_rf n id) (fun i => i ≤ n.fly.length ∧ ∀ k, k < i → (kAt n.fly k).1 ≠ id) (fun i => n.fly.length - i) ((fun i => n.fly.length - i) (i)) (rest_rfind_0 K Φ)) Ex.normal (St.mk [(1, (AV.i id)), (2, (AV.ptr 2 [])), (5, (AV.i (((i + 1) : Nat) : Int))), (10, (AV.v (Value.bool true))), (20, (AV.v (Value.bool false)))] [(2, (Blk.c (W.netA false false n)))] [2]))))))) ∧
 ((decide (((i : Nat) : Int) < (((List.length (W.Net.fly n)) : Nat) : Int))) = false →
 (Φ Ex.ret (St.mk [(1, (AV.i id)), (2, (AV.ptr 2 [])), (4, (AV.i (-1 : Int))), (5, (AV.i ((i : Nat) : Int))), (10, (AV.v (Value.bool false)))] [(2, (Blk.c (W.netA false false n)))] [2])))) := by kernel_rfl
theorem rcut_A (n : Net) (a b : Int) (K : Nat) (Φ : Ex → St → Prop) :
  (Holds C P 29 [] K Φ (vc C w_rcut b_rcut [] (start [netD n, .i a, .i b] []) lf)) =
  (LoopOK W.C W.P 29 [] K (bodyAt b_rcut [1, 0, 1, 0]) (St.mk [(0, (W.netA false false n)), (1, (AV.i a)), (2, (AV.i b)), (3, (AV.ptr 3 [])), (6, (AV.i (0 : Int))), (7, (AV.i (0 : Int)))] [(3, (Blk.c (W.netA false false n)))] [3]) (fun (e : Ex) (S' : St) => Holds W.C W.P 29 [] K Φ (after W.C w_rcut b_rcut [1, 0, 1, 0] [] lf e S'))) := by kernel_rfl
noncomputable abbrev bd_rcut_0 : Code := bodyAt (b_rcut) [1, 0, 1, 0]
theorem ok_rcut_0 : codeOK bd_rcut_0 = true := by kernel_rfl
noncomputable abbrev rest_rcut_0 (K : Nat) (Φ : Ex → St → Prop) : Ex → St → Prop := fun e S' => Holds C P 29 [] K Φ (after C w_rcut (b_rcut) [1, 0, 1, 0] [] lf e S')
theorem rcut_L0 (n : Net) (a b : Int) (i : Nat) (K : Nat) (Φ : Ex → St → Prop) :
  (Holds C P 29 [] K (RoundQ C 29 [] K (I_rc n a b) (fun i => i ≤ n.cuts.length ∧ ∀ k, k < i → pAt n.cuts k ≠ ofI a b) (fun i => n.cuts.length - i) ((fun i => n.cuts.length - i) (i)) (rest_rcut_0 K Φ)) (vc C w_rcut bd_rcut_0 [] ((I_rc n a b) (i)) lf)) =
  (((decide (((i : Nat) : Int) < (((List.length (W.Net.cuts n)) : Nat) : Int))) = true →
 ((((0 : Int) ≤ ((i : Nat) : Int)) ∧ (((i : Nat) : Int) < (((List.length (W.Net.cuts n)) : Nat) : Int))) ∧
  ((∀ (i1 : Nat), ((i1 < 2) → ((IntKind.i64 = IntKind.i64) ∧ (isInt IntKind.i64 (layParts (fun (x : Nat) => (AV.i (0 : Int))) [(0, (AV.i (Min.min a b))), (1, (AV.i (Max.max a b)))] i1))))) ∧
  (((List.all (List.range 2) (fun (i1 : Nat) => ((W.two (Prod.fst (W.pAt (W.Net.cuts n) i)) (Prod.snd (W.pAt (W.Net.cuts n) i)) i1) == (asI (layParts (fun (x : Nat) => (AV.i (0 : Int))) [(0, (AV.i (Min.min a b))), (1, (AV.i (Max.max a b)))] i1))))) = true →
  (Φ Ex.ret (St.mk [(1, (AV.i a)), (2, (AV.i b)), (3, (AV.ptr 3 [])), (6, (AV.i ((i : Nat) : Int))), (7, (AV.i ((i : Nat) : Int))), (12, (AV.v (Value.bool true))), (27, (AV.v (Value.bool true)))] [(3, (Blk.c (W.netA false false n)))] [3]))) ∧
  ((List.all (List.range 2) (fun (i1 : Nat) => ((W.two (Prod.fst (W.pAt (W.Net.cuts n) i)) (Prod.snd (W.pAt (W.Net.cuts n) i)) i1) == (asI (layParts (fun (x : Nat) => (AV.i (0 : Int))) [(0, (AV.i (Min.min a b))), (1, (AV.i (Max.max a b)))] i1))))) = false →
  ((I64 (((i + 1) : Nat) : Int)) ∧
   ((RoundQ C 29 [] K (I_rc n a b) (fun i => i ≤ n.cuts.length ∧ ∀ k, k < i → pAt n.cuts k ≠ ofI a b) (fun i => n.cuts.length - i) ((fun i => n.cuts.length - i) (i)) (rest_rcut_0 K Φ)) Ex.normal (St.mk [(1, (AV.i a)), (2, (AV.i b)), (3, (AV.ptr 3 [])), (7, (AV.i (((i + 1) : Nat) : Int))), (12, (AV.v (Value.bool true))), (27, (AV.v (Value.bool false)))] [(3, (Blk.c (W.netA false false n)))] [3])))))))) ∧
 ((decide (((i : Nat) : Int) < (((List.length (W.Net.cuts n)) : Nat) : Int))) = false →
 (Φ Ex.ret (St.mk [(1, (AV.i a)), (2, (AV.i b)), (3, (AV.ptr 3 [])), (6, (AV.i (-1 : Int))), (7, (AV.i ((i : Nat) : Int))), (12, (AV.v (Value.bool false)))] [(3, (Blk.c (W.netA false false n)))] [3])))) := by kernel_rfl
theorem rreach_A (n : Net) (a b : Int) (K : Nat) (Φ : Ex → St → Prop) :
  (Holds C P 12 [] K Φ (vc C w_rreach b_rreach [] (start [netD n, .i a, .i b] []) lf)) =
  (Fun W.C W.P 37 [(W.netA false false n), (AV.i a), (AV.i b)] [] (AV.i (W.rcutI (W.toN (W.netA false false n)) a b)) [] ∧
 (True ∧
 (Φ Ex.ret (St.mk [(0, (W.netA false false n)), (1, (AV.i a)), (2, (AV.i b)), (3, (AV.ptr 3 [])), (6, (AV.sb (decide ((W.rcutI (W.toN (W.netA false false n)) a b) < (0 : Int)))))] [(3, (Blk.c (W.netA false false n)))] [3])))) := by kernel_rfl
theorem without_A (n : Net) (i : Nat) (K : Nat) (Φ : Ex → St → Prop) :
  (Holds C P 24 [] K Φ (vc C w_without b_without [] (start [netD n, i64 i] []) lf)) =
  ((((0 : Int) ≤ (0 : Int)) ∧ (((0 : Int) ≤ ((i : Nat) : Int)) ∧ (((i : Nat) : Int) ≤ (((List.length (W.Net.fly n)) : Nat) : Int)))) ∧
 ((0 = 0) ∧
 (((0 = 0) ∨ (0 < i)) ∧
 ((((0 + i) * 24) ≤ 140737488355328) ∧
 ((I64 (((i + 1) : Nat) : Int)) ∧
 ((((0 : Int) ≤ (((i + 1) : Nat) : Int)) ∧ (((((i + 1) : Nat) : Int) ≤ (((List.length (W.Net.fly n)) : Nat) : Int)) ∧ ((((List.length (W.Net.fly n)) : Nat) : Int) ≤ (((List.length (W.Net.fly n)) : Nat) : Int)))) ∧
 (((((0 + i) + ((List.length (W.Net.fly n)) - (i + 1))) * 24) ≤ 140737488355328) ∧
 ((W.ShK) ∧
 (Φ Ex.ret (St.mk [(0, (W.netA false false n)), (1, (AV.i ((i : Nat) : Int))), (2, (AV.ptr 2 [])), (4, (AV.ptr 4 [])), (5, (AV.sl 11 [] 0 (0 + i) (0 + i) false 3))] [(2, (Blk.c (W.netA false false n))), (4, (Blk.c (AV.st [(AV.sl 18 [] 0 ((0 + i) + ((List.length (W.Net.fly n)) - (i + 1))) ((0 + i) + ((List.length (W.Net.fly n)) - (i + 1))) false 3), (W.dP false (W.Net.cuts n)), (AV.i (W.Net.next n))]))), (6, (Blk.c (AV.st []))), (18, (Blk.c (AV.arr ((0 + i) + ((List.length (W.Net.fly n)) - (i + 1))) 3 (cat (0 + i) (fun (i1 : Nat) => (W.pkA (W.kAt (W.Net.fly n) (0 + (0 + i1))))) (fun (i1 : Nat) => (W.pkA (W.kAt (W.Net.fly n) ((i + 1) + i1))))))))] [18, 11, 6, 4, 2])))))))))) := by kernel_rfl
theorem rsend_A (n : Net) (a b : Int) (K : Nat) (Φ : Ex → St → Prop) :
  (Holds C P 46 [] K Φ (vc C w_rsend b_rsend [] (start [netD n, .i a, .i b] []) lf)) =
  (Fun W.C W.P 30 [(AV.i a), (AV.i b)] [] (AV.sb (W.partsB a b)) [] ∧
 (True ∧
 (((! (W.partsB a b)) = true →
 (((W.ShK) ∧ (((true = true) ∧ (true = true)) ∧ (((true = true) ∧ (true = true)) ∧ True))) ∧
  (Φ Ex.ret (St.mk [(0, (W.netA false false n)), (1, (AV.i a)), (2, (AV.i b)), (3, (AV.ptr 3 [])), (6, (AV.ptr 6 [])), (11, (AV.v (Value.bool true)))] [(3, (Blk.c (W.netA false false n))), (6, (Blk.c (AV.st [(W.netA false false n), (AV.i (0 : Int)), (AV.i (1 : Int))])))] [6, 3])))) ∧
 ((! (W.partsB a b)) = false →
 (((decide ((((List.length (W.Net.fly n)) : Nat) : Int) ≥ (200 : Int))) = true →
  (((W.ShK) ∧ (((true = true) ∧ (true = true)) ∧ (((true = true) ∧ (true = true)) ∧ True))) ∧
   (Φ Ex.ret (St.mk [(0, (W.netA false false n)), (1, (AV.i a)), (2, (AV.i b)), (3, (AV.ptr 3 [])), (6, (AV.ptr 6 [])), (11, (AV.v (Value.bool false))), (22, (AV.v (Value.bool true)))] [(3, (Blk.c (W.netA false false n))), (6, (Blk.c (AV.st [(W.netA false false n), (AV.i (0 : Int)), (AV.i (2 : Int))])))] [6, 3])))) ∧
  ((decide ((((List.length (W.Net.fly n)) : Nat) : Int) ≥ (200 : Int))) = false →
  (((decide ((W.Net.next n) ≥ (1000000000 : Int))) = true →
   (((W.ShK) ∧ (((true = true) ∧ (true = true)) ∧ (((true = true) ∧ (true = true)) ∧ True))) ∧
    (Φ Ex.ret (St.mk [(0, (W.netA false false n)), (1, (AV.i a)), (2, (AV.i b)), (3, (AV.ptr 3 [])), (6, (AV.ptr 6 [])), (11, (AV.v (Value.bool false))), (22, (AV.v (Value.bool true)))] [(3, (Blk.c (W.netA false false n))), (6, (Blk.c (AV.st [(W.netA false false n), (AV.i (0 : Int)), (AV.i (2 : Int))])))] [6, 3])))) ∧
   ((decide ((W.Net.next n) ≥ (1000000000 : Int))) = false →
   ((0 = 0) ∧
    (((0 = 0) ∨ (0 < (List.length (W.Net.fly n)))) ∧
    ((((0 + (List.length (W.Net.fly n))) * 24) ≤ 140737488355328) ∧
    (((((0 + (List.length (W.Net.fly n))) + 1) * 24) ≤ 140737488355328) ∧
    ((I64 ((W.Net.next n) + (1 : Int))) ∧
    (((W.ShK) ∧ (((true = true) ∧ (true = true)) ∧ (((true = true) ∧ (true = true)) ∧ True))) ∧
    (Φ Ex.ret (St.mk [(0, (W.netA false false n)), (1, (AV.i a)), (2, (AV.i b)), (3, (AV.ptr 3 [])), (6, (AV.ptr 6 [])), (7, (AV.sl 35 [] 0 ((0 + (List.length (W.Net.fly n))) + 1) ((0 + (List.length (W.Net.fly n))) + 1) false 3)), (11, (AV.v (Value.bool false))), (22, (AV.v (Value.bool false)))] [(3, (Blk.c (W.netA false false n))), (6, (Blk.c (AV.st [(AV.st [(AV.sl 35 [] 0 ((0 + (List.length (W.Net.fly n))) + 1) ((0 + (List.length (W.Net.fly n))) + 1) false 3), (W.dP false (W.Net.cuts n)), (AV.i ((W.Net.next n) + (1 : Int)))]), (AV.i (W.Net.next n)), (AV.i (0 : Int))]))), (25, (Blk.c (AV.st []))), (34, (Blk.c (AV.st [(AV.st [(AV.i (W.Net.next n)), (AV.i a), (AV.i b)])]))), (35, (Blk.c (AV.arr ((0 + (List.length (W.Net.fly n))) + 1) 3 (cat (0 + (List.length (W.Net.fly n))) (fun (i : Nat) => (W.pkA (W.kAt (W.Net.fly n) (0 + i)))) (fun (i : Nat) => (nthD [(AV.st [(AV.i (W.Net.next n)), (AV.i a), (AV.i b)])] (0 + i) (AV.v (Value.tuple (List.toArray [])))))))))] [35, 34, 28, 25, 6, 3])))))))))))))))) := by kernel_rfl
theorem rtake_A (n : Net) (id : Int) (K : Nat) (Φ : Ex → St → Prop) :
  (Holds C P 33 [] K Φ (vc C w_rtake b_rtake [] (start [netD n, .i id] []) lf)) =
  (Fun W.C W.P 32 [(W.netA false false n), (AV.i id)] [] (AV.i (W.rfindI (W.toN (W.netA false false n)) id)) [] ∧
 (True ∧
 (((decide ((W.rfindI (W.toN (W.netA false false n)) id) < (0 : Int))) = true →
 (((W.ShK) ∧ ((W.ShK) ∧ (((true = true) ∧ (true = true)) ∧ True))) ∧
  (Φ Ex.ret (St.mk [(0, (W.netA false false n)), (1, (AV.i id)), (2, (AV.ptr 2 [])), (4, (AV.ptr 4 [])), (5, (AV.i (W.rfindI (W.toN (W.netA false false n)) id))), (11, (AV.v (Value.bool true)))] [(2, (Blk.c (W.netA false false n))), (4, (Blk.c (AV.st [(W.netA false false n), (AV.st [(AV.i (0 : Int)), (AV.i (0 : Int)), (AV.i (0 : Int))]), (AV.i (90 : Int))])))] [4, 2])))) ∧
 ((decide ((W.rfindI (W.toN (W.netA false false n)) id) < (0 : Int))) = false →
 ((((0 : Int) ≤ (W.rfindI (W.toN (W.netA false false n)) id)) ∧ ((W.rfindI (W.toN (W.netA false false n)) id) < (((List.length (W.Net.fly n)) : Nat) : Int))) ∧
  ((W.ShK) ∧
  (Fun W.C W.P 20 [(W.netA false false n), (AV.i (Prod.fst (Prod.snd (W.kAt (W.Net.fly n) (Int.toNat (W.rfindI (W.toN (W.netA false false n)) id)))))), (AV.i (Prod.snd (Prod.snd (W.kAt (W.Net.fly n) (Int.toNat (W.rfindI (W.toN (W.netA false false n)) id))))))] [] (AV.sb (W.reachN (W.toN (W.netA false false n)) (Prod.fst (Prod.snd (W.kAt (W.Net.fly n) (Int.toNat (W.rfindI (W.toN (W.netA false false n)) id))))) (Prod.snd (Prod.snd (W.kAt (W.Net.fly n) (Int.toNat (W.rfindI (W.toN (W.netA false false n)) id))))))) [] ∧
  (True ∧
  (((! (W.reachN (W.toN (W.netA false false n)) (Prod.fst (Prod.snd (W.kAt (W.Net.fly n) (Int.toNat (W.rfindI (W.toN (W.netA false false n)) id))))) (Prod.snd (Prod.snd (W.kAt (W.Net.fly n) (Int.toNat (W.rfindI (W.toN (W.netA false false n)) id))))))) = true →
  (((W.ShK) ∧ ((W.ShK) ∧ (((true = true) ∧ (true = true)) ∧ True))) ∧
   (Φ Ex.ret (St.mk [(0, (W.netA false false n)), (1, (AV.i id)), (2, (AV.ptr 2 [])), (4, (AV.ptr 4 [])), (5, (AV.i (W.rfindI (W.toN (W.netA false false n)) id))), (6, (AV.ptr 6 [])), (11, (AV.v (Value.bool false))), (25, (AV.v (Value.bool true)))] [(2, (Blk.c (W.netA false false n))), (4, (Blk.c (AV.st [(W.netA false false n), (AV.st [(AV.i (0 : Int)), (AV.i (0 : Int)), (AV.i (0 : Int))]), (AV.i (320 : Int))]))), (6, (Blk.c (W.pkA (W.kAt (W.Net.fly n) (Int.toNat (W.rfindI (W.toN (W.netA false false n)) id))))))] [6, 4, 2])))) ∧
  ((! (W.reachN (W.toN (W.netA false false n)) (Prod.fst (Prod.snd (W.kAt (W.Net.fly n) (Int.toNat (W.rfindI (W.toN (W.netA false false n)) id))))) (Prod.snd (Prod.snd (W.kAt (W.Net.fly n) (Int.toNat (W.rfindI (W.toN (W.netA false false n)) id))))))) = false →
  (Fun W.C W.P 33 [(W.netA false false n), (AV.i (W.rfindI (W.toN (W.netA false false n)) id))] [] (W.netA false false (W.withoutN (W.toN (W.netA false false n)) (Int.toNat (W.rfindI (W.toN (W.netA false false n)) id)))) [] ∧
   (((W.ShK) ∧ ((W.ShK) ∧ (((true = true) ∧ (true = true)) ∧ True))) ∧
   (Φ Ex.ret (St.mk [(0, (W.netA false false n)), (1, (AV.i id)), (2, (AV.ptr 2 [])), (4, (AV.ptr 4 [])), (5, (AV.i (W.rfindI (W.toN (W.netA false false n)) id))), (6, (AV.ptr 6 [])), (11, (AV.v (Value.bool false))), (25, (AV.v (Value.bool false)))] [(2, (Blk.c (W.netA false false n))), (4, (Blk.c (AV.st [(W.netA false false (W.withoutN (W.toN (W.netA false false n)) (Int.toNat (W.rfindI (W.toN (W.netA false false n)) id)))), (W.pkA (W.kAt (W.Net.fly n) (Int.toNat (W.rfindI (W.toN (W.netA false false n)) id)))), (AV.i (0 : Int))]))), (6, (Blk.c (W.pkA (W.kAt (W.Net.fly n) (Int.toNat (W.rfindI (W.toN (W.netA false false n)) id))))))] [6, 4, 2])))))))))))))) := by kernel_rfl
theorem rlose_A (n : Net) (id : Int) (K : Nat) (Φ : Ex → St → Prop) :
  (Holds C P 17 [] K Φ (vc C w_rlose b_rlose [] (start [netD n, .i id] []) lf)) =
  (Fun W.C W.P 32 [(W.netA false false n), (AV.i id)] [] (AV.i (W.rfindI (W.toN (W.netA false false n)) id)) [] ∧
 (True ∧
 (((decide ((W.rfindI (W.toN (W.netA false false n)) id) < (0 : Int))) = true →
 (((W.ShK) ∧ ((W.ShK) ∧ (((true = true) ∧ (true = true)) ∧ True))) ∧
  (Φ Ex.ret (St.mk [(0, (W.netA false false n)), (1, (AV.i id)), (2, (AV.ptr 2 [])), (4, (AV.ptr 4 [])), (5, (AV.i (W.rfindI (W.toN (W.netA false false n)) id))), (10, (AV.v (Value.bool true)))] [(2, (Blk.c (W.netA false false n))), (4, (Blk.c (AV.st [(W.netA false false n), (AV.st [(AV.i (0 : Int)), (AV.i (0 : Int)), (AV.i (0 : Int))]), (AV.i (90 : Int))])))] [4, 2])))) ∧
 ((decide ((W.rfindI (W.toN (W.netA false false n)) id) < (0 : Int))) = false →
 (Fun W.C W.P 33 [(W.netA false false n), (AV.i (W.rfindI (W.toN (W.netA false false n)) id))] [] (W.netA false false (W.withoutN (W.toN (W.netA false false n)) (Int.toNat (W.rfindI (W.toN (W.netA false false n)) id)))) [] ∧
  (((W.ShK) ∧ ((W.ShK) ∧ (((true = true) ∧ (true = true)) ∧ True))) ∧
  (Φ Ex.ret (St.mk [(0, (W.netA false false n)), (1, (AV.i id)), (2, (AV.ptr 2 [])), (4, (AV.ptr 4 [])), (5, (AV.i (W.rfindI (W.toN (W.netA false false n)) id))), (10, (AV.v (Value.bool false)))] [(2, (Blk.c (W.netA false false n))), (4, (Blk.c (AV.st [(W.netA false false (W.withoutN (W.toN (W.netA false false n)) (Int.toNat (W.rfindI (W.toN (W.netA false false n)) id)))), (AV.st [(AV.i (0 : Int)), (AV.i (0 : Int)), (AV.i (0 : Int))]), (AV.i (0 : Int))])))] [4, 2])))))))) := by kernel_rfl
theorem rdouble_A (n : Net) (id : Int) (K : Nat) (Φ : Ex → St → Prop) :
  (Holds C P 33 [] K Φ (vc C w_rdouble b_rdouble [] (start [netD n, .i id] []) lf)) =
  (Fun W.C W.P 32 [(W.netA false false n), (AV.i id)] [] (AV.i (W.rfindI (W.toN (W.netA false false n)) id)) [] ∧
 (True ∧
 (((decide ((W.rfindI (W.toN (W.netA false false n)) id) < (0 : Int))) = true →
 (((W.ShK) ∧ ((W.ShK) ∧ (((true = true) ∧ (true = true)) ∧ True))) ∧
  (Φ Ex.ret (St.mk [(0, (W.netA false false n)), (1, (AV.i id)), (2, (AV.ptr 2 [])), (4, (AV.ptr 4 [])), (5, (AV.i (W.rfindI (W.toN (W.netA false false n)) id))), (11, (AV.v (Value.bool true)))] [(2, (Blk.c (W.netA false false n))), (4, (Blk.c (AV.st [(W.netA false false n), (AV.st [(AV.i (0 : Int)), (AV.i (0 : Int)), (AV.i (0 : Int))]), (AV.i (90 : Int))])))] [4, 2])))) ∧
 ((decide ((W.rfindI (W.toN (W.netA false false n)) id) < (0 : Int))) = false →
 ((((0 : Int) ≤ (W.rfindI (W.toN (W.netA false false n)) id)) ∧ ((W.rfindI (W.toN (W.netA false false n)) id) < (((List.length (W.Net.fly n)) : Nat) : Int))) ∧
  ((((0 : Int) ≤ (W.rfindI (W.toN (W.netA false false n)) id)) ∧ ((W.rfindI (W.toN (W.netA false false n)) id) < (((List.length (W.Net.fly n)) : Nat) : Int))) ∧
  (Fun W.C W.P 14 [(W.netA false false n), (AV.i (Prod.fst (Prod.snd (W.kAt (W.Net.fly n) (Int.toNat (W.rfindI (W.toN (W.netA false false n)) id)))))), (AV.i (Prod.snd (Prod.snd (W.kAt (W.Net.fly n) (Int.toNat (W.rfindI (W.toN (W.netA false false n)) id))))))] [] (AV.st [(W.netA false false (W.sendN (W.toN (W.netA false false n)) (Prod.fst (Prod.snd (W.kAt (W.Net.fly n) (Int.toNat (W.rfindI (W.toN (W.netA false false n)) id))))) (Prod.snd (Prod.snd (W.kAt (W.Net.fly n) (Int.toNat (W.rfindI (W.toN (W.netA false false n)) id))))))), (AV.i (W.sendI (W.toN (W.netA false false n)) (Prod.fst (Prod.snd (W.kAt (W.Net.fly n) (Int.toNat (W.rfindI (W.toN (W.netA false false n)) id))))) (Prod.snd (Prod.snd (W.kAt (W.Net.fly n) (Int.toNat (W.rfindI (W.toN (W.netA false false n)) id))))))), (AV.i (W.sendE (W.toN (W.netA false false n)) (Prod.fst (Prod.snd (W.kAt (W.Net.fly n) (Int.toNat (W.rfindI (W.toN (W.netA false false n)) id))))) (Prod.snd (Prod.snd (W.kAt (W.Net.fly n) (Int.toNat (W.rfindI (W.toN (W.netA false false n)) id)))))))]) [] ∧
  (((W.ShK) ∧ (((true = true) ∧ (true = true)) ∧ (((true = true) ∧ (true = true)) ∧ True))) ∧
  (((W.ShK) ∧ ((W.ShK) ∧ (((true = true) ∧ (true = true)) ∧ True))) ∧
  (Φ Ex.ret (St.mk [(0, (W.netA false false n)), (1, (AV.i id)), (2, (AV.ptr 2 [])), (4, (AV.ptr 4 [])), (5, (AV.i (W.rfindI (W.toN (W.netA false false n)) id))), (6, (AV.ptr 6 [])), (11, (AV.v (Value.bool false)))] [(2, (Blk.c (W.netA false false n))), (4, (Blk.c (AV.st [(W.netA false false (W.sendN (W.toN (W.netA false false n)) (Prod.fst (Prod.snd (W.kAt (W.Net.fly n) (Int.toNat (W.rfindI (W.toN (W.netA false false n)) id))))) (Prod.snd (Prod.snd (W.kAt (W.Net.fly n) (Int.toNat (W.rfindI (W.toN (W.netA false false n)) id))))))), (AV.st [(AV.i (0 : Int)), (AV.i (0 : Int)), (AV.i (0 : Int))]), (AV.i (W.sendE (W.toN (W.netA false false n)) (Prod.fst (Prod.snd (W.kAt (W.Net.fly n) (Int.toNat (W.rfindI (W.toN (W.netA false false n)) id))))) (Prod.snd (Prod.snd (W.kAt (W.Net.fly n) (Int.toNat (W.rfindI (W.toN (W.netA false false n)) id)))))))]))), (6, (Blk.c (AV.st [(W.netA false false (W.sendN (W.toN (W.netA false false n)) (Prod.fst (Prod.snd (W.kAt (W.Net.fly n) (Int.toNat (W.rfindI (W.toN (W.netA false false n)) id))))) (Prod.snd (Prod.snd (W.kAt (W.Net.fly n) (Int.toNat (W.rfindI (W.toN (W.netA false false n)) id))))))), (AV.i (W.sendI (W.toN (W.netA false false n)) (Prod.fst (Prod.snd (W.kAt (W.Net.fly n) (Int.toNat (W.rfindI (W.toN (W.netA false false n)) id))))) (Prod.snd (Prod.snd (W.kAt (W.Net.fly n) (Int.toNat (W.rfindI (W.toN (W.netA false false n)) id))))))), (AV.i (W.sendE (W.toN (W.netA false false n)) (Prod.fst (Prod.snd (W.kAt (W.Net.fly n) (Int.toNat (W.rfindI (W.toN (W.netA false false n)) id))))) (Prod.snd (Prod.snd (W.kAt (W.Net.fly n) (Int.toNat (W.rfindI (W.toN (W.netA false false n)) id)))))))])))] [6, 4, 2]))))))))))) := by kernel_rfl
theorem rsever_A (n : Net) (a b : Int) (K : Nat) (Φ : Ex → St → Prop) :
  (Holds C P 73 [] K Φ (vc C w_rsever b_rsever [] (start [netD n, .i a, .i b] []) lf)) =
  (Fun W.C W.P 30 [(AV.i a), (AV.i b)] [] (AV.sb (W.partsB a b)) [] ∧
 (True ∧
 (((! (W.partsB a b)) = true →
 (((W.ShK) ∧ ((W.ShK) ∧ (((true = true) ∧ (true = true)) ∧ True))) ∧
  (Φ Ex.ret (St.mk [(0, (W.netA false false n)), (1, (AV.i a)), (2, (AV.i b)), (3, (AV.ptr 3 [])), (6, (AV.ptr 6 [])), (13, (AV.v (Value.bool true)))] [(3, (Blk.c (W.netA false false n))), (6, (Blk.c (AV.st [(W.netA false false n), (AV.st [(AV.i (0 : Int)), (AV.i (0 : Int)), (AV.i (0 : Int))]), (AV.i (1 : Int))])))] [6, 3])))) ∧
 ((! (W.partsB a b)) = false →
 (Fun W.C W.P 20 [(W.netA false false n), (AV.i a), (AV.i b)] [] (AV.sb (W.reachN (W.toN (W.netA false false n)) a b)) [] ∧
  (True ∧
  (((! (W.reachN (W.toN (W.netA false false n)) a b)) = true →
  (((W.ShK) ∧ ((W.ShK) ∧ (((true = true) ∧ (true = true)) ∧ True))) ∧
   (Φ Ex.ret (St.mk [(0, (W.netA false false n)), (1, (AV.i a)), (2, (AV.i b)), (3, (AV.ptr 3 [])), (6, (AV.ptr 6 [])), (13, (AV.v (Value.bool false))), (20, (AV.v (Value.bool true)))] [(3, (Blk.c (W.netA false false n))), (6, (Blk.c (AV.st [(W.netA false false n), (AV.st [(AV.i (0 : Int)), (AV.i (0 : Int)), (AV.i (0 : Int))]), (AV.i (0 : Int))])))] [6, 3])))) ∧
  ((! (W.reachN (W.toN (W.netA false false n)) a b)) = false →
  (((decide ((((List.length (W.Net.cuts n)) : Nat) : Int) ≥ (200 : Int))) = true →
   (((W.ShK) ∧ ((W.ShK) ∧ (((true = true) ∧ (true = true)) ∧ True))) ∧
    (Φ Ex.ret (St.mk [(0, (W.netA false false n)), (1, (AV.i a)), (2, (AV.i b)), (3, (AV.ptr 3 [])), (6, (AV.ptr 6 [])), (13, (AV.v (Value.bool false))), (20, (AV.v (Value.bool false))), (26, (AV.v (Value.bool true)))] [(3, (Blk.c (W.netA false false n))), (6, (Blk.c (AV.st [(W.netA false false n), (AV.st [(AV.i (0 : Int)), (AV.i (0 : Int)), (AV.i (0 : Int))]), (AV.i (2 : Int))])))] [6, 3])))) ∧
   ((decide ((((List.length (W.Net.cuts n)) : Nat) : Int) ≥ (200 : Int))) = false →
   (((2 = 2) ∧ ((1 = 1) ∧ (∀ (i : Nat), ((i < 2) → (shp (AV.i (0 : Int)) (layParts (fun (x : Nat) => (AV.i (0 : Int))) [(0, (AV.i (Min.min a b))), (1, (AV.i (Max.max a b)))] i)))))) ∧
    (LoopOK W.C W.P 73 [] K (bodyAt b_rsever [1, 1, 1, 1, 1, 0, 0]) (St.mk [(0, (W.netA false false n)), (1, (AV.i a)), (2, (AV.i b)), (3, (AV.ptr 3 [])), (6, (AV.ptr 6 [])), (7, (AV.ptr 7 [])), (8, (AV.i (0 : Int))), (13, (AV.v (Value.bool false))), (20, (AV.v (Value.bool false))), (26, (AV.v (Value.bool false)))] [(3, (Blk.c (W.netA false false n))), (6, (Blk.c (AV.st [(AV.st [(AV.dat 0 true 0 (fun (x : Nat) => (AV.v (Value.tuple (List.toArray []))))), (AV.dat 0 true 0 (fun (x : Nat) => (AV.v (Value.tuple (List.toArray []))))), (AV.i (0 : Int))]), (AV.st [(AV.i (0 : Int)), (AV.i (0 : Int)), (AV.i (0 : Int))]), (AV.i (0 : Int))]))), (7, (Blk.c (AV.arr 2 1 (layParts (fun (x : Nat) => (AV.i (0 : Int))) [(0, (AV.i (Min.min a b))), (1, (AV.i (Max.max a b)))]))))] [7, 6, 3]) (fun (e : Ex) (S' : St) => Holds W.C W.P 73 [] K Φ (after W.C w_rsever b_rsever [1, 1, 1, 1, 1, 0, 0] [] lf e S')))))))))))))) := by kernel_rfl
noncomputable abbrev bd_rsever_0 : Code := bodyAt (b_rsever) [1, 1, 1, 1, 1, 0, 0]
theorem ok_rsever_0 : codeOK bd_rsever_0 = true := by kernel_rfl
noncomputable abbrev rest_rsever_0 (K : Nat) (Φ : Ex → St → Prop) : Ex → St → Prop := fun e S' => Holds C P 73 [] K Φ (after C w_rsever (b_rsever) [1, 1, 1, 1, 1, 0, 0] [] lf e S')
theorem rsever_L0 (n : Net) (a b : Int) (i : Nat) (K : Nat) (Φ : Ex → St → Prop) :
  (Holds C P 73 [] K (RoundQ C 73 [] K (I_rs n a b zT) (fun i => i ≤ n.cuts.length ∧ ∀ k, k < i → ordP (pAt n.cuts k) (ofI a b) < 0) (fun i => n.cuts.length - i) ((fun i => n.cuts.length - i) (i)) (rest_rsever_0 K Φ)) (vc C w_rsever bd_rsever_0 [] ((I_rs n a b zT) (i)) lf)) =
  (((decide (((i : Nat) : Int) < (((List.length (W.Net.cuts n)) : Nat) : Int))) = true →
 ((((0 : Int) ≤ ((i : Nat) : Int)) ∧ (((i : Nat) : Int) < (((List.length (W.Net.cuts n)) : Nat) : Int))) ∧
  (Fun W.C W.P 42 [(W.prA (W.pAt (W.Net.cuts n) i)), (W.prA ((Min.min a b), (Max.max a b)))] [] (AV.sb (decide ((W.ordP ((W.two (Prod.fst (W.pAt (W.Net.cuts n) i)) (Prod.snd (W.pAt (W.Net.cuts n) i)) 0), (W.two (Prod.fst (W.pAt (W.Net.cuts n) i)) (Prod.snd (W.pAt (W.Net.cuts n) i)) 1)) ((W.two (Prod.fst ((Min.min a b), (Max.max a b))) (Prod.snd ((Min.min a b), (Max.max a b))) 0), (W.two (Prod.fst ((Min.min a b), (Max.max a b))) (Prod.snd ((Min.min a b), (Max.max a b))) 1))) < (0 : Int)))) [] ∧
  (True ∧
  (((decide ((W.ordP ((W.two (Prod.fst (W.pAt (W.Net.cuts n) i)) (Prod.snd (W.pAt (W.Net.cuts n) i)) 0), (W.two (Prod.fst (W.pAt (W.Net.cuts n) i)) (Prod.snd (W.pAt (W.Net.cuts n) i)) 1)) ((W.two (Prod.fst ((Min.min a b), (Max.max a b))) (Prod.snd ((Min.min a b), (Max.max a b))) 0), (W.two (Prod.fst ((Min.min a b), (Max.max a b))) (Prod.snd ((Min.min a b), (Max.max a b))) 1))) < (0 : Int))) = true →
  ((I64 (((i + 1) : Nat) : Int)) ∧
   ((RoundQ C 73 [] K (I_rs n a b zT) (fun i => i ≤ n.cuts.length ∧ ∀ k, k < i → ordP (pAt n.cuts k) (ofI a b) < 0) (fun i => n.cuts.length - i) ((fun i => n.cuts.length - i) (i)) (rest_rsever_0 K Φ)) Ex.normal (St.mk [(3, (AV.ptr 3 [])), (6, (AV.ptr 6 [])), (7, (AV.ptr 7 [])), (8, (AV.i (((i + 1) : Nat) : Int))), (49, (AV.v (Value.bool true)))] [(3, (Blk.c (W.netA false false n))), (6, (Blk.c (AV.st [(AV.st [(AV.dat 0 true 0 (fun (x : Nat) => (AV.v (Value.tuple (List.toArray []))))), (AV.dat 0 true 0 (fun (x : Nat) => (AV.v (Value.tuple (List.toArray []))))), (AV.i (0 : Int))]), (AV.st [(AV.i (0 : Int)), (AV.i (0 : Int)), (AV.i (0 : Int))]), (AV.i (0 : Int))]))), (7, (Blk.c (W.prA ((Min.min a b), (Max.max a b)))))] [3, 6, 7])))) ∧
  ((decide ((W.ordP ((W.two (Prod.fst (W.pAt (W.Net.cuts n) i)) (Prod.snd (W.pAt (W.Net.cuts n) i)) 0), (W.two (Prod.fst (W.pAt (W.Net.cuts n) i)) (Prod.snd (W.pAt (W.Net.cuts n) i)) 1)) ((W.two (Prod.fst ((Min.min a b), (Max.max a b))) (Prod.snd ((Min.min a b), (Max.max a b))) 0), (W.two (Prod.fst ((Min.min a b), (Max.max a b))) (Prod.snd ((Min.min a b), (Max.max a b))) 1))) < (0 : Int))) = false →
  ((((0 : Int) ≤ (0 : Int)) ∧ (((0 : Int) ≤ ((i : Nat) : Int)) ∧ (((i : Nat) : Int) ≤ (((List.length (W.Net.cuts n)) : Nat) : Int)))) ∧
   ((0 = 0) ∧
   (((0 = 0) ∨ (0 < i)) ∧
   ((((0 + i) * 16) ≤ 140737488355328) ∧
   (((((0 + i) + 1) * 16) ≤ 140737488355328) ∧
   ((((0 : Int) ≤ ((i : Nat) : Int)) ∧ ((((i : Nat) : Int) ≤ (((List.length (W.Net.cuts n)) : Nat) : Int)) ∧ ((((List.length (W.Net.cuts n)) : Nat) : Int) ≤ (((List.length (W.Net.cuts n)) : Nat) : Int)))) ∧
   ((((((0 + i) + 1) + ((List.length (W.Net.cuts n)) - i)) * 16) ≤ 140737488355328) ∧
   (((W.ShK) ∧ ((W.ShK) ∧ (((true = true) ∧ (true = true)) ∧ True))) ∧
   (Φ Ex.ret (St.mk [(3, (AV.ptr 3 [])), (6, (AV.ptr 6 [])), (7, (AV.ptr 7 [])), (8, (AV.i ((i : Nat) : Int))), (9, (AV.sl 60 [] 0 ((0 + i) + 1) ((0 + i) + 1) false 2)), (49, (AV.v (Value.bool false)))] [(3, (Blk.c (W.netA false false n))), (6, (Blk.c (AV.st [(AV.st [(W.dK false (W.Net.fly n)), (AV.sl 68 [] 0 (((0 + i) + 1) + ((List.length (W.Net.cuts n)) - i)) (((0 + i) + 1) + ((List.length (W.Net.cuts n)) - i)) false 2), (AV.i (W.Net.next n))]), (AV.st [(AV.i (0 : Int)), (AV.i (0 : Int)), (AV.i (0 : Int))]), (AV.i (0 : Int))]))), (7, (Blk.c (W.prA ((Min.min a b), (Max.max a b))))), (52, (Blk.c (AV.st []))), (59, (Blk.c (AV.st [(W.prA ((Min.min a b), (Max.max a b)))]))), (68, (Blk.c (AV.arr (((0 + i) + 1) + ((List.length (W.Net.cuts n)) - i)) 2 (cat ((0 + i) + 1) (fun (i1 : Nat) => (cat (0 + i) (fun (i2 : Nat) => (W.prA (W.pAt (W.Net.cuts n) (0 + (0 + i2))))) (fun (i2 : Nat) => (nthD [(W.prA ((Min.min a b), (Max.max a b)))] (0 + i2) (AV.v (Value.tuple (List.toArray []))))) (0 + i1))) (fun (i1 : Nat) => (W.prA (W.pAt (W.Net.cuts n) (i + i1))))))))] [68, 60, 59, 57, 52, 3, 6, 7])))))))))))))))) ∧
 ((decide (((i : Nat) : Int) < (((List.length (W.Net.cuts n)) : Nat) : Int))) = false →
 ((((0 : Int) ≤ (0 : Int)) ∧ (((0 : Int) ≤ ((i : Nat) : Int)) ∧ (((i : Nat) : Int) ≤ (((List.length (W.Net.cuts n)) : Nat) : Int)))) ∧
  ((0 = 0) ∧
  (((0 = 0) ∨ (0 < i)) ∧
  ((((0 + i) * 16) ≤ 140737488355328) ∧
  (((((0 + i) + 1) * 16) ≤ 140737488355328) ∧
  ((((0 : Int) ≤ ((i : Nat) : Int)) ∧ ((((i : Nat) : Int) ≤ (((List.length (W.Net.cuts n)) : Nat) : Int)) ∧ ((((List.length (W.Net.cuts n)) : Nat) : Int) ≤ (((List.length (W.Net.cuts n)) : Nat) : Int)))) ∧
  ((((((0 + i) + 1) + ((List.length (W.Net.cuts n)) - i)) * 16) ≤ 140737488355328) ∧
  (((W.ShK) ∧ ((W.ShK) ∧ (((true = true) ∧ (true = true)) ∧ True))) ∧
  (Φ Ex.ret (St.mk [(3, (AV.ptr 3 [])), (6, (AV.ptr 6 [])), (7, (AV.ptr 7 [])), (8, (AV.i ((i : Nat) : Int))), (9, (AV.sl 60 [] 0 ((0 + i) + 1) ((0 + i) + 1) false 2)), (49, (AV.v (Value.bool false)))] [(3, (Blk.c (W.netA false false n))), (6, (Blk.c (AV.st [(AV.st [(W.dK false (W.Net.fly n)), (AV.sl 68 [] 0 (((0 + i) + 1) + ((List.length (W.Net.cuts n)) - i)) (((0 + i) + 1) + ((List.length (W.Net.cuts n)) - i)) false 2), (AV.i (W.Net.next n))]), (AV.st [(AV.i (0 : Int)), (AV.i (0 : Int)), (AV.i (0 : Int))]), (AV.i (0 : Int))]))), (7, (Blk.c (W.prA ((Min.min a b), (Max.max a b))))), (52, (Blk.c (AV.st []))), (59, (Blk.c (AV.st [(W.prA ((Min.min a b), (Max.max a b)))]))), (68, (Blk.c (AV.arr (((0 + i) + 1) + ((List.length (W.Net.cuts n)) - i)) 2 (cat ((0 + i) + 1) (fun (i1 : Nat) => (cat (0 + i) (fun (i2 : Nat) => (W.prA (W.pAt (W.Net.cuts n) (0 + (0 + i2))))) (fun (i2 : Nat) => (nthD [(W.prA ((Min.min a b), (Max.max a b)))] (0 + i2) (AV.v (Value.tuple (List.toArray []))))) (0 + i1))) (fun (i1 : Nat) => (W.prA (W.pAt (W.Net.cuts n) (i + i1))))))))] [68, 60, 59, 57, 52, 3, 6, 7])))))))))))) := by kernel_rfl
theorem rheal_A (n : Net) (a b : Int) (K : Nat) (Φ : Ex → St → Prop) :
  (Holds C P 42 [] K Φ (vc C w_rheal b_rheal [] (start [netD n, .i a, .i b] []) lf)) =
  (Fun W.C W.P 30 [(AV.i a), (AV.i b)] [] (AV.sb (W.partsB a b)) [] ∧
 (True ∧
 (((! (W.partsB a b)) = true →
 (((W.ShK) ∧ ((W.ShK) ∧ (((true = true) ∧ (true = true)) ∧ True))) ∧
  (Φ Ex.ret (St.mk [(0, (W.netA false false n)), (1, (AV.i a)), (2, (AV.i b)), (3, (AV.ptr 3 [])), (6, (AV.ptr 6 [])), (12, (AV.v (Value.bool true)))] [(3, (Blk.c (W.netA false false n))), (6, (Blk.c (AV.st [(W.netA false false n), (AV.st [(AV.i (0 : Int)), (AV.i (0 : Int)), (AV.i (0 : Int))]), (AV.i (1 : Int))])))] [6, 3])))) ∧
 ((! (W.partsB a b)) = false →
 (Fun W.C W.P 37 [(W.netA false false n), (AV.i a), (AV.i b)] [] (AV.i (W.rcutI (W.toN (W.netA false false n)) a b)) [] ∧
  (True ∧
  (((decide ((W.rcutI (W.toN (W.netA false false n)) a b) < (0 : Int))) = true →
  (((W.ShK) ∧ ((W.ShK) ∧ (((true = true) ∧ (true = true)) ∧ True))) ∧
   (Φ Ex.ret (St.mk [(0, (W.netA false false n)), (1, (AV.i a)), (2, (AV.i b)), (3, (AV.ptr 3 [])), (6, (AV.ptr 6 [])), (7, (AV.i (W.rcutI (W.toN (W.netA false false n)) a b))), (12, (AV.v (Value.bool false))), (20, (AV.v (Value.bool true)))] [(3, (Blk.c (W.netA false false n))), (6, (Blk.c (AV.st [(W.netA false false n), (AV.st [(AV.i (0 : Int)), (AV.i (0 : Int)), (AV.i (0 : Int))]), (AV.i (0 : Int))])))] [6, 3])))) ∧
  ((decide ((W.rcutI (W.toN (W.netA false false n)) a b) < (0 : Int))) = false →
  ((((0 : Int) ≤ (0 : Int)) ∧ (((0 : Int) ≤ (W.rcutI (W.toN (W.netA false false n)) a b)) ∧ ((W.rcutI (W.toN (W.netA false false n)) a b) ≤ (((List.length (W.Net.cuts n)) : Nat) : Int)))) ∧
   ((0 = 0) ∧
   (((0 = 0) ∨ (0 < (Int.toNat (W.rcutI (W.toN (W.netA false false n)) a b)))) ∧
   ((((0 + (Int.toNat (W.rcutI (W.toN (W.netA false false n)) a b))) * 16) ≤ 140737488355328) ∧
   ((I64 ((W.rcutI (W.toN (W.netA false false n)) a b) + (1 : Int))) ∧
   ((((0 : Int) ≤ ((W.rcutI (W.toN (W.netA false false n)) a b) + (1 : Int))) ∧ ((((W.rcutI (W.toN (W.netA false false n)) a b) + (1 : Int)) ≤ (((List.length (W.Net.cuts n)) : Nat) : Int)) ∧ ((((List.length (W.Net.cuts n)) : Nat) : Int) ≤ (((List.length (W.Net.cuts n)) : Nat) : Int)))) ∧
   (((((0 + (Int.toNat (W.rcutI (W.toN (W.netA false false n)) a b))) + ((List.length (W.Net.cuts n)) - (Int.toNat ((W.rcutI (W.toN (W.netA false false n)) a b) + (1 : Int))))) * 16) ≤ 140737488355328) ∧
   (((W.ShK) ∧ ((W.ShK) ∧ (((true = true) ∧ (true = true)) ∧ True))) ∧
   (Φ Ex.ret (St.mk [(0, (W.netA false false n)), (1, (AV.i a)), (2, (AV.i b)), (3, (AV.ptr 3 [])), (6, (AV.ptr 6 [])), (7, (AV.i (W.rcutI (W.toN (W.netA false false n)) a b))), (8, (AV.sl 28 [] 0 (0 + (Int.toNat (W.rcutI (W.toN (W.netA false false n)) a b))) (0 + (Int.toNat (W.rcutI (W.toN (W.netA false false n)) a b))) false 2)), (12, (AV.v (Value.bool false))), (20, (AV.v (Value.bool false)))] [(3, (Blk.c (W.netA false false n))), (6, (Blk.c (AV.st [(AV.st [(W.dK false (W.Net.fly n)), (AV.sl 37 [] 0 ((0 + (Int.toNat (W.rcutI (W.toN (W.netA false false n)) a b))) + ((List.length (W.Net.cuts n)) - (Int.toNat ((W.rcutI (W.toN (W.netA false false n)) a b) + (1 : Int))))) ((0 + (Int.toNat (W.rcutI (W.toN (W.netA false false n)) a b))) + ((List.length (W.Net.cuts n)) - (Int.toNat ((W.rcutI (W.toN (W.netA false false n)) a b) + (1 : Int))))) false 2), (AV.i (W.Net.next n))]), (AV.st [(AV.i (0 : Int)), (AV.i (0 : Int)), (AV.i (0 : Int))]), (AV.i (0 : Int))]))), (23, (Blk.c (AV.st []))), (37, (Blk.c (AV.arr ((0 + (Int.toNat (W.rcutI (W.toN (W.netA false false n)) a b))) + ((List.length (W.Net.cuts n)) - (Int.toNat ((W.rcutI (W.toN (W.netA false false n)) a b) + (1 : Int))))) 2 (cat (0 + (Int.toNat (W.rcutI (W.toN (W.netA false false n)) a b))) (fun (i : Nat) => (W.prA (W.pAt (W.Net.cuts n) (0 + (0 + i))))) (fun (i : Nat) => (W.prA (W.pAt (W.Net.cuts n) ((Int.toNat ((W.rcutI (W.toN (W.netA false false n)) a b) + (1 : Int))) + i))))))))] [37, 28, 23, 6, 3])))))))))))))))))) := by kernel_rfl
theorem bs_hit {α : Type} {c : α → Int} {l : List α} {d : α} {i : Nat} (hm : Mono c l d) (hi : i < l.length) (h0 : c (l.getD i d) = 0) : bsI c l = i ∧ bsB c l = true := by
  have h2 : ∀ j, i ≤ j → j < l.length → 0 ≤ c (l.getD j d) := fun j h1 hj => by
    refine Classical.byContradiction fun hc => ?_
    by_cases e : j = i
    · rw [e, h0] at hc; omega
    · have := hm i j (by omega) hj (by omega); omega
  have e : bsI c l = i := bs_at (d := d) (by omega) (fun j hj => hm j i hj hi (by omega)) h2
  exact ⟨e, (bs_spec hm).2.2.2.2 ⟨by omega, by rw [e]; exact h0⟩⟩
theorem VN.hit {n : Net} (h : VN n) {id : Int} {i : Nat} (hi : i < n.fly.length) (h0 : (kAt n.fly i).1 = id) : findI n id = i ∧ findB n id = true := bs_hit (mono_K h.1 id) hi (cmpI_eq.2 h0)
theorem VN.miss {n : Net} (h : VN n) {id : Int} (h0 : ∀ k, k < n.fly.length → (kAt n.fly k).1 ≠ id) : findB n id = false :=
  Bool.eq_false_iff.2 fun hb => by obtain ⟨h1, h2⟩ := h.find hb; exact h0 _ h1 h2
theorem VN.cutHit {n : Net} (h : VN n) {a b : Int} {i : Nat} (hi : i < n.cuts.length) (h0 : pAt n.cuts i = ofI a b) : cutI n a b = i ∧ reachN n a b = false := by
  obtain ⟨e1, e2⟩ := bs_hit (mono_P h.2.2.1 (ofI a b)) hi (ordP_eq.2 h0)
  exact ⟨e1, by unfold reachN; rw [e2]; rfl⟩
theorem VN.cutIs {n : Net} (h : VN n) {a b : Int} (hr : reachN n a b = false) : cutI n a b < n.cuts.length ∧ pAt n.cuts (cutI n a b) = ofI a b := by
  have hb : bsB (cP (ofI a b)) n.cuts = true := bnf hr
  obtain ⟨e1, e2⟩ := (bs_spec (mono_P h.2.2.1 (ofI a b))).2.2.2.1 hb
  exact ⟨e1, ordP_eq.1 e2⟩
theorem VN.cutMiss {n : Net} (h : VN n) {a b : Int} (h0 : ∀ k, k < n.cuts.length → pAt n.cuts k ≠ ofI a b) : reachN n a b = true := by
  cases hr : reachN n a b with
  | true => rfl
  | false => obtain ⟨e1, e2⟩ := h.cutIs hr; exact absurd e2 (h0 _ e1)
theorem rfind_fun {n : Net} (h : VN n) (id : Int) : Fun C P F_rfind [netD n, .i id] [] (.i (rfindI n id)) [] := by
  have hv := h.2.2.2.2
  refine in_rfind (W := w_rfind) rfl 0 (by simp) rfl (fun id h => absurd rfl h) ?_
  refine of_eq (rfind_A n id 0 _) ?_
  refine loop_inv (W := w_rfind) ctx mixed ok_rfind_0 (I_rf n id) (fun i => i ≤ n.fly.length ∧ ∀ k, k < i → (kAt n.fly k).1 ≠ id) (fun i => n.fly.length - i) 0 ⟨Nat.zero_le _, fun k hk => by omega⟩ ?_ fun i hi => ?_
  · exact ent_of [(2, 2)] rfl (tm_cons rfl (sm_same rfl) (tm_cons rfl (sm_ptr rfl) (tm_cons rfl (sm_same rfl) tm_nil))) (hp_cons rfl rfl (sm_same rfl) hp_nil)
  obtain ⟨hi, hz⟩ := hi
  refine of_eq (rfind_L0 n id i 0 _) ⟨fun h1 => ?_, fun h1 => ?_⟩
  · have h1 := of_decide_eq_true h1
    refine ⟨(by first | omega | decide | (unfold I64; omega)), fun h2 => ?_, fun h2 => ⟨(by first | omega | decide | (unfold I64; omega)), ?_⟩⟩
    · obtain ⟨e1, e2⟩ := h.hit (show i < n.fly.length by omega) (eq_of_beq h2)
      exact post_tmp rfl (sm_int (by unfold rfindI; rw [e2, e1]; rfl))
    · have h2 : (kAt n.fly i).1 ≠ id := fun e => by rw [e] at h2; simp at h2
      exact round_end (i + 1) ⟨by omega, fun k hk => by
        by_cases e : k = i
        · rw [e]; exact h2
        · exact hz k (by omega)⟩ (ent_of [(2, 2)] rfl (tm_cons rfl (sm_same rfl) (tm_cons rfl (sm_ptr rfl) (tm_cons rfl (sm_same rfl) tm_nil))) (hp_cons rfl rfl (sm_same rfl) hp_nil)) (by dsimp only; omega)
  · have h1 := of_decide_eq_false h1
    exact post_tmp rfl (sm_int (by unfold rfindI; rw [h.miss fun k hk => hz k (by omega)]; rfl))
theorem pr_eq {x y : PI} : (List.all (List.range 2) fun i1 => two x.1 x.2 i1 == two y.1 y.2 i1) = decide (x = y) := by
  obtain ⟨p, q⟩ := x
  obtain ⟨r, s⟩ := y
  show (List.all [0, 1] fun i => (two p q i == two r s i)) = _
  simp only [List.all_cons, List.all_nil, two_0, two_1, Bool.and_true, Prod.mk.injEq]
  by_cases e1 : p = r <;> by_cases e2 : q = s <;> simp [e1, e2]
theorem rcut_fun {n : Net} (h : VN n) (a b : Int) : Fun C P F_rcut [netD n, .i a, .i b] [] (.i (rcutI n a b)) [] := by
  have hv := h.2.2.2.2
  refine in_rcut (W := w_rcut) rfl 0 (by simp) rfl (fun id h => absurd rfl h) ?_
  refine of_eq (rcut_A n a b 0 _) ?_
  refine loop_inv (W := w_rcut) ctx mixed ok_rcut_0 (I_rc n a b) (fun i => i ≤ n.cuts.length ∧ ∀ k, k < i → pAt n.cuts k ≠ ofI a b) (fun i => n.cuts.length - i) 0 ⟨Nat.zero_le _, fun k hk => by omega⟩ ?_ fun i hi => ?_
  · exact ent_of [(3, 3)] rfl (tm_cons rfl (sm_same rfl) (tm_cons rfl (sm_same rfl) (tm_cons rfl (sm_ptr rfl) (tm_cons rfl (sm_same rfl) tm_nil)))) (hp_cons rfl rfl (sm_same rfl) hp_nil)
  obtain ⟨hi, hz⟩ := hi
  refine of_eq (rcut_L0 n a b i 0 _) ⟨fun h1 => ?_, fun h1 => ?_⟩
  · have h1 := of_decide_eq_true h1
    refine ⟨(by first | omega | decide | (unfold I64; omega)), fun j hj => ?_, fun h2 => ?_, fun h2 => ⟨(by first | omega | decide | (unfold I64; omega)), ?_⟩⟩
    · match j, hj with
      | 0, _ => exact ⟨rfl, rfl⟩
      | 1, _ => exact ⟨rfl, rfl⟩
    · have h2 : decide (pAt n.cuts i = ofI a b) = true := by rw [← pr_eq]; exact h2
      obtain ⟨e1, e2⟩ := h.cutHit (show i < n.cuts.length by omega) (of_decide_eq_true h2)
      exact post_tmp rfl (sm_int (by unfold rcutI; rw [e2, e1]; rfl))
    · have h2 : decide (pAt n.cuts i = ofI a b) = false := by rw [← pr_eq]; exact h2
      exact round_end (i + 1) ⟨by omega, fun k hk => by
        by_cases e : k = i
        · rw [e]; exact of_decide_eq_false h2
        · exact hz k (by omega)⟩ (ent_of [(3, 3)] rfl (tm_cons rfl (sm_same rfl) (tm_cons rfl (sm_same rfl) (tm_cons rfl (sm_ptr rfl) (tm_cons rfl (sm_same rfl) tm_nil)))) (hp_cons rfl rfl (sm_same rfl) hp_nil)) (by dsimp only; omega)
  · have h1 := of_decide_eq_false h1
    exact post_tmp rfl (sm_int (by unfold rcutI; rw [h.cutMiss fun k hk => hz k (by omega)]; rfl))
theorem rcut_neg {n : Net} {a b : Int} : decide (rcutI n a b < 0) = reachN n a b := by
  unfold rcutI
  cases reachN n a b with
  | true => rfl
  | false => rw [if_neg (by simp)]; exact decide_eq_false (by omega)
theorem rreach_fun {n : Net} (h : VN n) (a b : Int) : Fun C P F_rreach [netD n, .i a, .i b] [] (.sb (reachN n a b)) [] := by
  refine in_rreach (W := w_rreach) rfl 0 (by simp) rfl (fun id h => absurd rfl h) ?_
  refine of_eq (rreach_A n a b 0 _) ?_
  have e0 : toN (netD n) = n := toN_net false false n
  rw [e0]
  exact ⟨rcut_fun h a b, trivial, post_tmp rfl (sm_sb rcut_neg)⟩
section
variable {N : Nat} {S : St}
/-- What an own cell holds; the blocks L are data from now on. -/
theorem post_cellF (L : List Nat) {a t id : Nat} {x r : AV} (h : look (S.freeze L).tm a = some (.ptr id [])) (hb : look (S.freeze L).hp id = some (.c x)) (hs : simR (look [(id, 0)]) x r) (hn : r.noid = true) (hf : fitsT W.C t r = true) : FunPost W.C N 0 [.cell a t] r [] .ret S := by
  refine funPost_of (r' := r) (S2 := { tm := [(a, .ptr 0 [])], hp := [(0, .c r)], seen := [0] }) (by simp) ((ent_freeze S L).trans (ent_of [(id, 0)] ?_ (tm_cons h (sm_ptr (by simp [look, Nat.beq_refl])) tm_nil) (hp_cons rfl hb hs hp_nil))) ?_ (.inl ⟨hn, rfl⟩) fun id b hb => by cases hb
  · simp only [namesOK, keysOf, distinct, memb, List.map, List.all_cons, List.all_nil, List.range_zero, Nat.beq_refl]
    cases memb (S.freeze L).seen id <;> rfl
  · simp [resAV, resAll, resOne, look, Nat.beq_refl, AV.sub, hf]
end
theorem er_fly {l : List Pk} {i k : Nat} (hi : i < l.length) (hk : k < i + (l.length - (i + 1))) : (if k < i then pkA (kAt l k) else pkA (kAt l (i + 1 + (k - i)))) = pkA (kAt (l.eraseIdx i) k) := by
  have hl : (l.eraseIdx i).length = l.length - 1 := by rw [List.length_eraseIdx]; simp [hi]
  rw [kAt_lt (l := l.eraseIdx i) (by omega), List.getElem_eraseIdx]
  split
  · rw [kAt_lt (by omega)]
  · rw [show i + 1 + (k - i) = k + 1 by omega, kAt_lt (by omega)]
theorem without_fun {n : Net} (h : VN n) (i : Nat) (hi : i < n.fly.length) : Fun C P F_without [netD n, i64 i] [] (netD (withoutN n i)) [] := by
  have hv := h.2.2.2.2
  refine in_without (W := w_without) rfl 0 (by simp) rfl (fun id h => absurd rfl h) ?_
  refine of_eq (without_A n i 0 _) ?_
  simp only [Nat.zero_add]
  refine ⟨(by first | omega | decide | (unfold I64; omega)), (by simp), (by simp), (by first | omega | decide | (unfold I64; omega)), (by first | omega | decide | (unfold I64; omega)), (by first | omega | decide | (unfold I64; omega)), (by first | omega | decide | (unfold I64; omega)), (by simp), ?_⟩
  refine post_cellF [18] rfl rfl (sm_st ⟨sm_dat' (by show _ = (n.fly.eraseIdx i).length; rw [List.length_eraseIdx]; simp [hi]; omega) (by simp) fun k hk => ?_, sm_same rfl, sm_int rfl, trivial⟩) rfl rfl
  rw [Nat.zero_add]
  exact er_fly hi hk
theorem takA_fits (n : Net) (p : Pk) (e : Int) : fitsT W.C 40 (takA n p e) = true := by rfl
theorem senA_fits (n : Net) (i e : Int) : fitsT W.C 35 (senA n i e) = true := by rfl
theorem rsend_fun {n : Net} (h : VN n) (a b : Int) : Fun C P F_rsend [netD n, .i a, .i b] [] (senA (sendN n a b) (sendI n a b) (sendE n a b)) [] := by
  have hv := h.2.2.2.2
  refine in_rsend (W := w_rsend) rfl 0 (by simp) rfl (fun id h => absurd rfl h) ?_
  refine of_eq (rsend_A n a b 0 _) ?_
  have nb : partsB a b = true → addB n = false → FunPost C 46 0 [.cell 6 35] (senA n 0 2) [] .ret = FunPost C 46 0 [.cell 6 35] (senA (sendN n a b) (sendI n a b) (sendE n a b)) [] .ret := fun hp hb => by
    have e : sendE n a b = 2 := by unfold sendE; rw [hp, hb]; rfl
    have e1 : sendN n a b = n := by unfold sendN; rw [e]; rfl
    have e2 : sendI n a b = 0 := by unfold sendI; rw [e]; rfl
    rw [e, e1, e2]
  refine ⟨rparts_fun a b, trivial, fun h1 => ⟨by simp, ?_⟩, fun h1 => ⟨fun h2 => ⟨by simp, ?_⟩, fun h2 => ⟨fun h3 => ⟨by simp, ?_⟩, fun h3 => ?_⟩⟩⟩
  · have hp := bnt h1
    have e : sendE n a b = 1 := by unfold sendE; rw [hp]; rfl
    have e1 : sendN n a b = n := by unfold sendN; rw [e]; rfl
    have e2 : sendI n a b = 0 := by unfold sendI; rw [e]; rfl
    rw [e, e1, e2]
    exact post_cellF [] rfl rfl (sm_same rfl) rfl rfl
  · have h2 := of_decide_eq_true h2
    rw [← nb (bnf h1) (Bool.eq_false_iff.2 fun hb => by have := addB_t.1 hb; omega)]
    exact post_cellF [] rfl rfl (sm_same rfl) rfl rfl
  · have h3 := of_decide_eq_true h3
    rw [← nb (bnf h1) (Bool.eq_false_iff.2 fun hb => by have := addB_t.1 hb; omega)]
    exact post_cellF [] rfl rfl (sm_same rfl) rfl rfl
  · have h2 := of_decide_eq_false h2
    have h3 := of_decide_eq_false h3
    have hb : addB n = true := addB_t.2 (by omega)
    have e : sendE n a b = 0 := by unfold sendE; rw [bnf h1, hb]; rfl
    have e1 : sendN n a b = ⟨n.fly ++ [(n.next, a, b)], n.cuts, n.next + 1⟩ := by unfold sendN; rw [e]; unfold addN; rw [hb]; rfl
    have e2 : sendI n a b = n.next := by unfold sendI; rw [e]; rfl
    rw [e, e1, e2]
    simp only [Nat.zero_add]
    refine ⟨(by simp), (by simp), (by first | omega | decide | (unfold I64; omega)), (by first | omega | decide | (unfold I64; omega)), (by first | omega | decide | (unfold I64; omega)), (by simp), ?_⟩
    refine post_cellF [35] rfl rfl (sm_st ⟨sm_st ⟨sm_dat' (by simp) (by simp) fun i hi => ?_, sm_same rfl, sm_int rfl, trivial⟩, sm_int rfl, sm_int rfl, trivial⟩) rfl rfl
    rw [kAt_app rfl hi]
    unfold cat
    rw [Nat.zero_add]
    by_cases h3 : i < n.fly.length
    · rw [if_pos h3, if_pos h3]
    · rw [if_neg h3, if_neg h3]
      obtain rfl : i = n.fly.length := by omega
      simp [nthD]
theorem rfind_neg {n : Net} {id : Int} : decide (rfindI n id < 0) = !(findB n id) := by
  unfold rfindI
  cases findB n id with
  | true => rw [if_pos rfl]; exact decide_eq_false (by omega)
  | false => rfl
theorem rtake_fun {n : Net} (h : VN n) (id : Int) : Fun C P F_rtake [netD n, .i id] [] (takA (takeN n id) (takeP n id) (takeE n id)) [] := by
  have hv := h.2.2.2.2
  refine in_rtake (W := w_rtake) rfl 0 (by simp) rfl (fun id h => absurd rfl h) ?_
  refine of_eq (rtake_A n id 0 _) ?_
  have e0 : toN (netD n) = n := toN_net false false n
  rw [e0, rfind_neg]
  refine ⟨rfind_fun h id, trivial, fun h1 => ⟨by simp, ?_⟩, fun h1 => ?_⟩
  · have hf := bnt h1
    have e2 : takeE n id = 90 := by unfold takeE; rw [hf]; rfl
    have e1 : takeN n id = n := by unfold takeN; rw [e2]; rfl
    have e3 : takeP n id = (0, 0, 0) := by unfold takeP; rw [e2]; rfl
    rw [e1, e2, e3]
    exact post_cellF [] rfl rfl (sm_same rfl) rfl rfl
  · have hf := bnf h1
    have hlt := (h.find hf).1
    have i1 : rfindI n id = (findI n id : Nat) := by unfold rfindI; rw [hf]; rfl
    rw [i1, Int.toNat_natCast]
    refine ⟨(by first | omega | decide | (unfold I64; omega)), shpK, rreach_fun h _ _, trivial, fun h2 => ⟨by simp, ?_⟩, fun h2 => ⟨without_fun h _ hlt, by simp, ?_⟩⟩
    · have hr : reachN n (pkN n id).2.1 (pkN n id).2.2 = false := bnt h2
      have e2 : takeE n id = 320 := by unfold takeE; rw [hf, hr]; rfl
      have e1 : takeN n id = n := by unfold takeN; rw [e2]; rfl
      have e3 : takeP n id = (0, 0, 0) := by unfold takeP; rw [e2]; rfl
      rw [e1, e2, e3]
      exact post_cellF [] rfl rfl (sm_same rfl) rfl rfl
    · have hr : reachN n (pkN n id).2.1 (pkN n id).2.2 = true := bnf h2
      have e2 : takeE n id = 0 := by unfold takeE; rw [hf, hr]; rfl
      have e1 : takeN n id = withoutN n (findI n id) := by unfold takeN; rw [e2]; unfold loseN; rw [hf]; rfl
      have e3 : takeP n id = pkN n id := by unfold takeP; rw [e2]; rfl
      rw [e1, e2, e3]
      exact post_cellF [] rfl rfl (sm_same rfl) rfl rfl
theorem rlose_fun {n : Net} (h : VN n) (id : Int) : Fun C P F_rlose [netD n, .i id] [] (takA (loseN n id) (0, 0, 0) (loseE n id)) [] := by
  have hv := h.2.2.2.2
  refine in_rlose (W := w_rlose) rfl 0 (by simp) rfl (fun id h => absurd rfl h) ?_
  refine of_eq (rlose_A n id 0 _) ?_
  have e0 : toN (netD n) = n := toN_net false false n
  rw [e0, rfind_neg]
  refine ⟨rfind_fun h id, trivial, fun h1 => ⟨by simp, ?_⟩, fun h1 => ?_⟩
  · have hf := bnt h1
    have e1 : loseN n id = n := by unfold loseN; rw [hf]; rfl
    have e2 : loseE n id = 90 := by unfold loseE; rw [hf]; rfl
    rw [e1, e2]
    exact post_cellF [] rfl rfl (sm_same rfl) rfl rfl
  · have hf := bnf h1
    have hlt := (h.find hf).1
    have i1 : rfindI n id = (findI n id : Nat) := by unfold rfindI; rw [hf]; rfl
    have e1 : loseN n id = withoutN n (findI n id) := by unfold loseN; rw [hf]; rfl
    have e2 : loseE n id = 0 := by unfold loseE; rw [hf]; rfl
    rw [i1, Int.toNat_natCast, e1, e2]
    refine ⟨without_fun h _ hlt, by simp, ?_⟩
    exact post_cellF [] rfl rfl (sm_same rfl) rfl rfl
theorem rdouble_fun {n : Net} (h : VN n) (id : Int) : Fun C P F_rdouble [netD n, .i id] [] (takA (dblN n id) (0, 0, 0) (dblE n id)) [] := by
  have hv := h.2.2.2.2
  refine in_rdouble (W := w_rdouble) rfl 0 (by simp) rfl (fun id h => absurd rfl h) ?_
  refine of_eq (rdouble_A n id 0 _) ?_
  have e0 : toN (netD n) = n := toN_net false false n
  rw [e0, rfind_neg]
  refine ⟨rfind_fun h id, trivial, fun h1 => ⟨by simp, ?_⟩, fun h1 => ?_⟩
  · have hf := bnt h1
    have e2 : dblE n id = 90 := by unfold dblE; rw [hf]; rfl
    have e1 : dblN n id = n := by unfold dblN; rw [e2]; rfl
    rw [e1, e2]
    exact post_cellF [] rfl rfl (sm_same rfl) rfl rfl
  · have hf := bnf h1
    have hlt := (h.find hf).1
    have i1 : rfindI n id = (findI n id : Nat) := by unfold rfindI; rw [hf]; rfl
    have hp : partsB (pkN n id).2.1 (pkN n id).2.2 = true := (h.2.1 _ (by rw [show pkN n id = n.fly[findI n id] from kAt_lt hlt]; exact List.getElem_mem hlt)).2.2
    have e1 : dblE n id = sendE n (pkN n id).2.1 (pkN n id).2.2 := by unfold dblE sendE; rw [hf, hp]; rfl
    have e2 : dblN n id = sendN n (pkN n id).2.1 (pkN n id).2.2 := by unfold dblN sendN; rw [e1]
    rw [i1, Int.toNat_natCast, e1, e2]
    refine ⟨(by first | omega | decide | (unfold I64; omega)), (by first | omega | decide | (unfold I64; omega)), rsend_fun h _ _, by simp, by simp, ?_⟩
    exact post_cellF [] rfl rfl (sm_same rfl) rfl rfl
theorem ins_l {l : List PI} {i k : Nat} {x : PI} (hi : i ≤ l.length) (hk : k < i + 1 + (l.length - i)) : (if k < i + 1 then (if k < i then prA (pAt l k) else prA x) else prA (pAt l (i + (k - (i + 1))))) = prA (pAt (l.insertIdx i x) k) := by
  rw [← ins_cuts hi (by omega)]
  unfold insF
  by_cases h1 : k < i
  · rw [if_pos (by omega), if_pos h1, if_pos h1]
  · by_cases h2 : k = i
    · rw [if_pos (by omega), if_neg h1, if_neg h1, if_pos h2]
    · rw [if_neg (by omega), if_neg h1, if_neg h2, show i + (k - (i + 1)) = k - 1 by omega]
theorem rsever_fun {n : Net} (h : VN n) (a b : Int) : Fun C P F_rsever [netD n, .i a, .i b] [] (takA (sevN n a b) (0, 0, 0) (sevE n a b)) [] := by
  have hv := h.2.2.2.2
  refine in_rsever (W := w_rsever) rfl 0 (by simp) rfl (fun id h => absurd rfl h) ?_
  refine of_eq (rsever_A n a b 0 _) ?_
  have e0 : toN (netD n) = n := toN_net false false n
  rw [e0]
  refine ⟨rparts_fun a b, trivial, fun h1 => ⟨by simp, ?_⟩, fun h1 => ⟨rreach_fun h a b, trivial, fun h2 => ⟨by simp, ?_⟩, fun h2 => ⟨fun h3 => ⟨by simp, ?_⟩, fun h3 => ⟨⟨rfl, rfl, fun j hj => ?_⟩, ?_⟩⟩⟩⟩
  · have hp := bnt h1
    have e1 : sevN n a b = n := by unfold sevN; rw [hp]; rfl
    have e2 : sevE n a b = 1 := by unfold sevE; rw [hp]; rfl
    rw [e1, e2]
    exact post_cellF [] rfl rfl (sm_same rfl) rfl rfl
  · have hp := bnf h1
    have hr := bnt h2
    have e1 : sevN n a b = n := by unfold sevN; rw [hp, hr]; rfl
    have e2 : sevE n a b = 0 := by unfold sevE; rw [hp, hr]; rfl
    rw [e1, e2]
    exact post_cellF [] rfl rfl (sm_same rfl) rfl rfl
  · have hp := bnf h1
    have hr := bnf h2
    have h3 := of_decide_eq_true h3
    have hl : ¬ n.cuts.length < 200 := by omega
    have e1 : sevN n a b = n := by unfold sevN; rw [hp, hr, decide_eq_false hl]; rfl
    have e2 : sevE n a b = 2 := by unfold sevE; rw [hp, hr, if_neg hl]; rfl
    rw [e1, e2]
    exact post_cellF [] rfl rfl (sm_same rfl) rfl rfl
  · match j, hj with
    | 0, _ => exact ⟨rfl, rfl⟩
    | 1, _ => exact ⟨rfl, rfl⟩
  · have hp := bnf h1
    have hr := bnf h2
    have h3 := of_decide_eq_false h3
    have hl : n.cuts.length < 200 := by omega
    have e1 : sevN n a b = ⟨n.fly, n.cuts.insertIdx (cutI n a b) (ofI a b), n.next⟩ := by unfold sevN; rw [hp, hr, decide_eq_true hl]; rfl
    have e2 : sevE n a b = 0 := by unfold sevE; rw [hp, hr, if_pos hl]; rfl
    rw [e1, e2]
    refine loop_inv (W := w_rsever) ctx mixed ok_rsever_0 (I_rs n a b zT) (fun i => i ≤ n.cuts.length ∧ ∀ k, k < i → ordP (pAt n.cuts k) (ofI a b) < 0) (fun i => n.cuts.length - i) 0 ⟨Nat.zero_le _, fun k hk => by omega⟩ ?_ fun i hi => ?_
    · refine ent_of [(3, 3), (6, 6), (7, 7)] rfl (tm_cons rfl (sm_ptr rfl) (tm_cons rfl (sm_ptr rfl) (tm_cons rfl (sm_ptr rfl) (tm_cons rfl (sm_same rfl) tm_nil)))) (hp_cons rfl rfl (sm_same rfl) (hp_cons rfl rfl (sm_st ⟨sm_st ⟨sm_dat' rfl (by simp) (fun i hi => absurd hi (Nat.not_lt_zero i)), sm_dat' rfl (by simp) (fun i hi => absurd hi (Nat.not_lt_zero i)), sm_int rfl, trivial⟩, sm_same rfl, sm_int rfl, trivial⟩) (hp_cons rfl rfl (sm_arr fun j hj => ?_) hp_nil)))
      match j, hj with
      | 0, _ => rfl
      | 1, _ => rfl
    obtain ⟨hi, hz⟩ := hi
    have hend : i = n.cuts.length ∨ (i < n.cuts.length ∧ ¬ ordP (pAt n.cuts i) (ofI a b) < 0) → cutI n a b = i := fun he => bs_at (d := (0, 0)) hi hz fun j h1 hj => by
      refine Classical.byContradiction fun hc => ?_
      rcases he with he | ⟨he, he2⟩
      · omega
      · by_cases e : j = i
        · rw [e] at hc
          have hc : ¬ 0 ≤ ordP (pAt n.cuts i) (ofI a b) := hc
          exact he2 (by omega)
        · exact he2 (mono_P h.2.2.1 (ofI a b) i j (by omega) hj (by omega))
    refine of_eq (rsever_L0 n a b i 0 _) ?_
    simp only [Nat.zero_add]
    have fin : cutI n a b = i → ∀ k, k < i + 1 + (n.cuts.length - i) → cat (i + 1) (cat i (fun i2 => prA (pAt n.cuts i2)) fun i2 => nthD [prA (ofI a b)] i2 (.v undef)) (fun i1 => prA (pAt n.cuts (i + i1))) k = prA (pAt (n.cuts.insertIdx (cutI n a b) (ofI a b)) k) := fun hc k hk => by
      rw [hc, ← ins_l hi hk]
      unfold cat
      by_cases h1 : k < i + 1
      · rw [if_pos h1, if_pos h1]
        by_cases h2 : k < i
        · rw [if_pos h2, if_pos h2]
        · rw [if_neg h2, if_neg h2, show k - i = 0 by omega]; rfl
      · rw [if_neg h1, if_neg h1]
    refine ⟨fun h4 => ?_, fun h4 => ?_⟩
    · have h4 := of_decide_eq_true h4
      refine ⟨(by first | omega | decide | (unfold I64; omega)), less_fun (pAt n.cuts i) (ofI a b), trivial, fun h5 => ⟨(by first | omega | decide | (unfold I64; omega)), ?_⟩, fun h5 => ⟨(by first | omega | decide | (unfold I64; omega)), (by simp), (by simp), (by first | omega | decide | (unfold I64; omega)), (by first | omega | decide | (unfold I64; omega)), (by first | omega | decide | (unfold I64; omega)), (by first | omega | decide | (unfold I64; omega)), (by simp), ?_⟩⟩
      · have h5 : ordP (pAt n.cuts i) (ofI a b) < 0 := of_decide_eq_true h5
        exact round_end (i + 1) ⟨by omega, fun k hk => by
          by_cases e : k = i
          · rw [e]; exact h5
          · exact hz k (by omega)⟩ (ent_of [(3, 3), (6, 6), (7, 7)] rfl (tm_cons rfl (sm_ptr rfl) (tm_cons rfl (sm_ptr rfl) (tm_cons rfl (sm_ptr rfl) (tm_cons rfl (sm_same rfl) tm_nil)))) (hp_cons rfl rfl (sm_same rfl) (hp_cons rfl rfl (sm_same rfl) (hp_cons rfl rfl (sm_same rfl) hp_nil)))) (by omega)
      · have h5 : ¬ ordP (pAt n.cuts i) (ofI a b) < 0 := of_decide_eq_false h5
        have hc := hend (.inr ⟨by omega, h5⟩)
        refine post_cellF [68] rfl rfl (sm_st ⟨sm_st ⟨sm_same rfl, sm_dat' (by rw [List.length_insertIdx_of_le_length (by rw [hc]; exact hi)]; omega) (by simp) fun k hk => ?_, sm_int rfl, trivial⟩, sm_same rfl, sm_int rfl, trivial⟩) rfl rfl
        rw [Nat.zero_add]
        exact fin hc k hk
    · have h4 := of_decide_eq_false h4
      have hc := hend (.inl (by omega))
      refine ⟨(by first | omega | decide | (unfold I64; omega)), (by simp), (by simp), (by first | omega | decide | (unfold I64; omega)), (by first | omega | decide | (unfold I64; omega)), (by first | omega | decide | (unfold I64; omega)), (by first | omega | decide | (unfold I64; omega)), (by simp), ?_⟩
      refine post_cellF [68] rfl rfl (sm_st ⟨sm_st ⟨sm_same rfl, sm_dat' (by rw [List.length_insertIdx_of_le_length (by rw [hc]; exact hi)]; omega) (by simp) fun k hk => ?_, sm_int rfl, trivial⟩, sm_same rfl, sm_int rfl, trivial⟩) rfl rfl
      rw [Nat.zero_add]
      exact fin hc k hk
theorem er_cut {l : List PI} {i k : Nat} (hi : i < l.length) (hk : k < i + (l.length - (i + 1))) : (if k < i then prA (pAt l k) else prA (pAt l (i + 1 + (k - i)))) = prA (pAt (l.eraseIdx i) k) := by
  have hl : (l.eraseIdx i).length = l.length - 1 := by rw [List.length_eraseIdx]; simp [hi]
  rw [pAt_lt (l := l.eraseIdx i) (by omega), List.getElem_eraseIdx]
  split
  · rw [pAt_lt (by omega)]
  · rw [show i + 1 + (k - i) = k + 1 by omega, pAt_lt (by omega)]
theorem filt_erase {l : List PI} {x : PI} (hl : l.Pairwise fun x y => ordP x y < 0) {i : Nat} (hi : i < l.length) (hx : pAt l i = x) : filtL l x = l.eraseIdx i := by
  rw [List.eraseIdx_eq_take_drop_succ]
  have hd : l = l.take i ++ x :: l.drop (i + 1) := by rw [← hx, pAt_lt hi, ← List.drop_eq_getElem_cons hi, List.take_append_drop]
  have hp := hl
  rw [hd, List.pairwise_append] at hp
  obtain ⟨_, p2, p3⟩ := hp
  rw [List.pairwise_cons] at p2
  have irr : ∀ y : PI, ¬ ordP y y < 0 := fun y => by rw [ordP_eq.2 rfl]; omega
  unfold filtL
  conv => lhs; rw [hd]
  rw [List.filter_append, List.filter_cons_of_neg (by simp)]
  have f : ∀ q : List PI, (∀ y, y ∈ q → y ≠ x) → q.filter (fun y => decide (y ≠ x)) = q := fun q hq => List.filter_eq_self.2 fun y hy => decide_eq_true (hq y hy)
  rw [f _ fun y hy e => irr x (by have := p3 y hy x List.mem_cons_self; rwa [e] at this), f _ fun y hy e => irr x (by have := p2.1 y hy; rwa [e] at this)]
theorem rheal_fun {n : Net} (h : VN n) (a b : Int) : Fun C P F_rheal [netD n, .i a, .i b] [] (takA (healN n a b) (0, 0, 0) (healE a b)) [] := by
  have hv := h.2.2.2.2
  refine in_rheal (W := w_rheal) rfl 0 (by simp) rfl (fun id h => absurd rfl h) ?_
  refine of_eq (rheal_A n a b 0 _) ?_
  have e0 : toN (netD n) = n := toN_net false false n
  rw [e0, rcut_neg]
  refine ⟨rparts_fun a b, trivial, fun h1 => ⟨by simp, ?_⟩, fun h1 => ⟨rcut_fun h a b, trivial, fun h2 => ⟨by simp, ?_⟩, fun h2 => ?_⟩⟩
  · have hp := bnt h1
    have e1 : healN n a b = n := by unfold healN; rw [hp]; rfl
    have e2 : healE a b = 1 := by unfold healE; rw [hp]; rfl
    rw [e1, e2]
    exact post_cellF [] rfl rfl (sm_same rfl) rfl rfl
  · have hp := bnf h1
    have e2 : healE a b = 0 := by unfold healE; rw [hp]; rfl
    have e1 : healN n a b = n := by
      unfold healN; rw [hp, if_pos rfl]
      rw [filt_all fun k hk e => by have := (h.cutHit hk e).2; rw [h2] at this; cases this]
    rw [e1, e2]
    exact post_cellF [] rfl rfl (sm_same rfl) rfl rfl
  · have hp := bnf h1
    obtain ⟨c1, c2⟩ := h.cutIs h2
    have e2 : healE a b = 0 := by unfold healE; rw [hp]; rfl
    have e1 : healN n a b = ⟨n.fly, n.cuts.eraseIdx (cutI n a b), n.next⟩ := by
      unfold healN; rw [hp, if_pos rfl, filt_erase h.2.2.1 c1 c2]
    have i1 : rcutI n a b = (cutI n a b : Nat) := by unfold rcutI; rw [h2]; rfl
    have i2 : ((cutI n a b : Nat) + 1 : Int).toNat = cutI n a b + 1 := by omega
    rw [e1, e2, i1, i2, Int.toNat_natCast]
    simp only [Nat.zero_add]
    refine ⟨(by first | omega | decide | (unfold I64; omega)), (by simp), (by simp), (by first | omega | decide | (unfold I64; omega)), (by first | omega | decide | (unfold I64; omega)), (by first | omega | decide | (unfold I64; omega)), (by first | omega | decide | (unfold I64; omega)), (by simp), ?_⟩
    refine post_cellF [37] rfl rfl (sm_st ⟨sm_st ⟨sm_same rfl, sm_dat' (by rw [List.length_eraseIdx]; simp [c1]; omega) (by simp) fun k hk => ?_, sm_int rfl, trivial⟩, sm_same rfl, sm_int rfl, trivial⟩) rfl rfl
    rw [Nat.zero_add]
    exact er_cut c1 hk
end Go.Bu.W

namespace Go.Bu.W
def sameB (a b : Net) : Bool := decide (a.fly = b.fly) && decide (a.cuts = b.cuts) && decide (a.next = b.next)
abbrev Tri : Type := Nat × Nat × Nat
def tri (p : Tri) : Nat → Nat
  | 0 => p.1
  | 1 => p.2.1
  | _ => p.2.2
abbrev triA (p : Tri) : AV := .arr 3 1 (fun j => u8 (tri p j))
def toTri : AV → Tri
  | .arr _ _ f => ((asI (f 0)).toNat, (asI (f 1)).toNat, (asI (f 2)).toNat)
  | _ => (0, 0, 0)
abbrev tAt (l : List Tri) (i : Nat) : Tri := l.getD i (0, 0, 0)
abbrev dTri (ex : Bool) (l : List Tri) : AV := .dat l.length ex 3 (fun i => triA (tAt l i))
def toTL (n : Nat) (f : Nat → AV) : List Tri := (List.range n).map fun i => toTri (f i)
abbrev tlL (l : List Tri) : List Tri := toTL l.length (fun i => triA (tAt l i))
def stepN (n : Net) (x : Tri) : Net :=
  if x.1 % 8 ≤ 2 then sendN n (x.2.1 % 5 : Nat) (x.2.2 % 5 : Nat) else if x.1 % 8 = 3 then takeN n (x.2.1 % 16 : Nat) else if x.1 % 8 = 4 then loseN n (x.2.1 % 16 : Nat) else if x.1 % 8 = 5 then dblN n (x.2.1 % 16 : Nat)
  else if x.1 % 8 = 6 then sevN n (x.2.1 % 5 : Nat) (x.2.2 % 5 : Nat) else healN n (x.2.1 % 5 : Nat) (x.2.2 % 5 : Nat)
def net0 : Net := ⟨[], [], 1⟩
def madeI (l : List Tri) (i : Nat) : Net := (l.take i).foldl stepN net0
def madeN (l : List Tri) : Net := madeI l 20
def doneN (n : Net) (q : Int) (w : PI) : Net := if q = 0 then loseN n w.1 else if q = 1 then dblN n w.1 else if q = 2 then sevN n w.1 w.2 else healN n w.1 w.2
def doneE (n : Net) (q : Int) (w : PI) : Int := if q = 0 then loseE n w.1 else if q = 1 then dblE n w.1 else if q = 2 then sevE n w.1 w.2 else healE w.1 w.2
def toTak : AV → Net × Pk × Int
  | .st [x, p, e] => (toN x, toK p, asI e)
  | _ => (net0, (0, 0, 0), 0)
def sameTB (a b : Net × Pk × Int) : Bool := sameB a.1 b.1 && decide (a.2.1 = b.2.1) && decide (a.2.2 = b.2.2)
def crN8 (g : Nat) (args : List AV) (H : List (Nat × Blk)) : Option (AV × List (Nat × Blk)) :=
  sel (Nat.beq g F_same) (match args with | [x, y] => some (.sb (sameB (toN x) (toN y)), []) | _ => none) <|
  sel (Nat.beq g F_sameT) (match args with | [x, y] => some (.sb (sameTB (toTak x) (toTak y)), []) | _ => none) <|
  sel (Nat.beq g F_step) (match args with | [x, y] => some (netD (stepN (toN x) (toTri y)), []) | _ => none) <|
  sel (Nat.beq g F_made) (match args with | [.dat n _ _ f] => some (netD (madeN (toTL n f)), []) | _ => none) <|
  sel (Nat.beq g F_sent) (crF2 (fun n a b => some (senA (sendN n a b) (sendI n a b) (sendE n a b), [])) args) <|
  sel (Nat.beq g F_taken) (crF1 (fun _ n id => some (takA (takeN n id) (takeP n id) (takeE n id), [])) args) <|
  sel (Nat.beq g F_done) (match args with | [x, .v (.int _ q), w] => some (takA (doneN (toN x) q (toP w)) (0, 0, 0) (doneE (toN x) q (toP w)), []) | _ => none) <|
  crN7 g args H
def wayZ (keep : List Nat) (nt : Nat) (cuts : List Nat) : Way := ⟨crN8, byrefI, keep, [], nt, cuts⟩
def w_same : Way := wayZ [0, 1, 2, 3, 4, 5, 6, 29, 34, 47, 52, 65] 66 []
def w_sameT : Way := wayZ [0, 1, 2, 3, 4] 24 []
def w_sent : Way := wayZ [0, 1, 2, 3, 6, 7, 8, 9] 22 []
def w_taken : Way := wayZ [0, 1, 2, 4, 5, 6, 7] 19 []
def w_done : Way := wayZ [0, 1, 2, 3, 5, 6, 7, 8, 10, 20, 29, 38] 52 []
def I_sm0 (a b : Net) (i : Nat) : St := { tm := [(2, .ptr 2 []), (3, .ptr 3 []), (5, i64 i)], hp := [(2, .c (netD a)), (3, .c (netD b))], seen := [2, 3] }
def I_sm1 (a b : Net) (i : Nat) : St := { tm := [(2, .ptr 2 []), (3, .ptr 3 []), (6, i64 i)], hp := [(2, .c (netD a)), (3, .c (netD b))], seen := [2, 3] }

theorem same_A (a b : Net) (K : Nat) (Φ : Ex → St → Prop) :
  (Holds C P 66 [] K Φ (vc C w_same b_same [] (start [netD a, netD b] []) lf)) =
  ((((((List.length (W.Net.fly a)) : Nat) : Int) != (((List.length (W.Net.fly b)) : Nat) : Int)) = true →
 (Φ Ex.ret (St.mk [(0, (W.netA false false a)), (1, (W.netA false false b)), (2, (AV.ptr 2 [])), (3, (AV.ptr 3 [])), (4, (AV.v (Value.bool false))), (29, (AV.v (Value.bool true)))] [(2, (Blk.c (W.netA false false a))), (3, (Blk.c (W.netA false false b)))] [3, 2]))) ∧
 (((((List.length (W.Net.fly a)) : Nat) : Int) != (((List.length (W.Net.fly b)) : Nat) : Int)) = false →
 ((((((List.length (W.Net.cuts a)) : Nat) : Int) != (((List.length (W.Net.cuts b)) : Nat) : Int)) = true →
  (Φ Ex.ret (St.mk [(0, (W.netA false false a)), (1, (W.netA false false b)), (2, (AV.ptr 2 [])), (3, (AV.ptr 3 [])), (4, (AV.v (Value.bool false))), (29, (AV.v (Value.bool true)))] [(2, (Blk.c (W.netA false false a))), (3, (Blk.c (W.netA false false b)))] [3, 2]))) ∧
  (((((List.length (W.Net.cuts a)) : Nat) : Int) != (((List.length (W.Net.cuts b)) : Nat) : Int)) = false →
  ((((W.Net.next a) != (W.Net.next b)) = true →
   (Φ Ex.ret (St.mk [(0, (W.netA false false a)), (1, (W.netA false false b)), (2, (AV.ptr 2 [])), (3, (AV.ptr 3 [])), (4, (AV.v (Value.bool false))), (29, (AV.v (Value.bool true)))] [(2, (Blk.c (W.netA false false a))), (3, (Blk.c (W.netA false false b)))] [3, 2]))) ∧
   (((W.Net.next a) != (W.Net.next b)) = false →
   (LoopOK W.C W.P 66 [] K (bodyAt b_same [1, 1, 0, 1, 0]) (St.mk [(0, (W.netA false false a)), (1, (W.netA false false b)), (2, (AV.ptr 2 [])), (3, (AV.ptr 3 [])), (4, (AV.v (Value.bool false))), (5, (AV.i (0 : Int))), (29, (AV.v (Value.bool false)))] [(2, (Blk.c (W.netA false false a))), (3, (Blk.c (W.netA false false b)))] [3, 2]) (fun (e : Ex) (S' : St) => Holds W.C W.P 66 [] K Φ (after W.C w_same b_same [1, 1, 0, 1, 0] [] lf e S'))))))))) := by kernel_rfl
noncomputable abbrev bd_same_0 : Code := bodyAt (b_same) [1, 1, 0, 1, 0]
theorem ok_same_0 : codeOK bd_same_0 = true := by kernel_rfl
noncomputable abbrev rest_same_0 (K : Nat) (Φ : Ex → St → Prop) : Ex → St → Prop := fun e S' => Holds C P 66 [] K Φ (after C w_same (b_same) [1, 1, 0, 1, 0] [] lf e S')
theorem same_L0 (a b : Net) (i : Nat) (K : Nat) (Φ : Ex → St → Prop) :
  (Holds C P 66 [] K (RoundQ C 66 [] K (I_sm0 a b) (fun i => i ≤ a.fly.length ∧ ∀ k, k < i → kAt a.fly k = kAt b.fly k) (fun i => a.fly.length - i) ((fun i => a.fly.length - i) (i)) (rest_same_0 K Φ)) (vc C w_same bd_same_0 [] ((I_sm0 a b) (i)) lf)) =
  (((decide (((i : Nat) : Int) < (((List.length (W.Net.fly a)) : Nat) : Int))) = true →
 ((((0 : Int) ≤ ((i : Nat) : Int)) ∧ (((i : Nat) : Int) < (((List.length (W.Net.fly a)) : Nat) : Int))) ∧
  ((((0 : Int) ≤ ((i : Nat) : Int)) ∧ (((i : Nat) : Int) < (((List.length (W.Net.fly b)) : Nat) : Int))) ∧
  (((! (((Prod.fst (W.kAt (W.Net.fly a) i)) == (Prod.fst (W.kAt (W.Net.fly b) i))) && (((Prod.fst (Prod.snd (W.kAt (W.Net.fly a) i))) == (Prod.fst (Prod.snd (W.kAt (W.Net.fly b) i)))) && (((Prod.snd (Prod.snd (W.kAt (W.Net.fly a) i))) == (Prod.snd (Prod.snd (W.kAt (W.Net.fly b) i)))) && true)))) = true →
  (Φ Ex.ret (St.mk [(2, (AV.ptr 2 [])), (3, (AV.ptr 3 [])), (4, (AV.v (Value.bool false))), (5, (AV.i ((i : Nat) : Int))), (34, (AV.v (Value.bool true))), (47, (AV.v (Value.bool true)))] [(2, (Blk.c (W.netA false false a))), (3, (Blk.c (W.netA false false b)))] [2, 3]))) ∧
  ((! (((Prod.fst (W.kAt (W.Net.fly a) i)) == (Prod.fst (W.kAt (W.Net.fly b) i))) && (((Prod.fst (Prod.snd (W.kAt (W.Net.fly a) i))) == (Prod.fst (Prod.snd (W.kAt (W.Net.fly b) i)))) && (((Prod.snd (Prod.snd (W.kAt (W.Net.fly a) i))) == (Prod.snd (Prod.snd (W.kAt (W.Net.fly b) i)))) && true)))) = false →
  ((I64 (((i + 1) : Nat) : Int)) ∧
   ((RoundQ C 66 [] K (I_sm0 a b) (fun i => i ≤ a.fly.length ∧ ∀ k, k < i → kAt a.fly k = kAt b.fly k) (fun i => a.fly.length - i) ((fun i => a.fly.length - i) (i)) (rest_same_0 K Φ)) Ex.normal (St.mk [(2, (AV.ptr 2 [])), (3, (AV.ptr 3 [])), (5, (AV.i (((i + 1) : Nat) : Int))), (34, (AV.v (Value.bool true))), (47, (AV.v (Value.bool false)))] [(2, (Blk.c (W.netA false false a))), (3, (Blk.c (W.netA false false b)))] [2, 3])))))))) ∧
 ((decide (((i : Nat) : Int) < (((List.length (W.Net.fly a)) : Nat) : Int))) = false →
 (LoopOK W.C W.P 66 [] K (bodyAt b_same [1, 1, 1, 0, 1, 0]) (St.mk [(2, (AV.ptr 2 [])), (3, (AV.ptr 3 [])), (5, (AV.i ((i : Nat) : Int))), (6, (AV.i (0 : Int))), (34, (AV.v (Value.bool false)))] [(2, (Blk.c (W.netA false false a))), (3, (Blk.c (W.netA false false b)))] [2, 3]) (fun (e : Ex) (S' : St) => Holds W.C W.P 66 [] K Φ (after W.C w_same b_same [1, 1, 1, 0, 1, 0] [] lf e S'))))) := by kernel_rfl
noncomputable abbrev bd_same_1 : Code := bodyAt (b_same) [1, 1, 1, 0, 1, 0]
theorem ok_same_1 : codeOK bd_same_1 = true := by kernel_rfl
noncomputable abbrev rest_same_1 (K : Nat) (Φ : Ex → St → Prop) : Ex → St → Prop := fun e S' => Holds C P 66 [] K Φ (after C w_same (b_same) [1, 1, 1, 0, 1, 0] [] lf e S')
theorem same_L1 (a b : Net) (i : Nat) (K : Nat) (Φ : Ex → St → Prop) :
  (Holds C P 66 [] K (RoundQ C 66 [] K (I_sm1 a b) (fun i => i ≤ a.cuts.length ∧ ∀ k, k < i → pAt a.cuts k = pAt b.cuts k) (fun i => a.cuts.length - i) ((fun i => a.cuts.length - i) (i)) (rest_same_1 K Φ)) (vc C w_same bd_same_1 [] ((I_sm1 a b) (i)) lf)) =
  (((decide (((i : Nat) : Int) < (((List.length (W.Net.cuts a)) : Nat) : Int))) = true →
 ((((0 : Int) ≤ ((i : Nat) : Int)) ∧ (((i : Nat) : Int) < (((List.length (W.Net.cuts a)) : Nat) : Int))) ∧
  ((((0 : Int) ≤ ((i : Nat) : Int)) ∧ (((i : Nat) : Int) < (((List.length (W.Net.cuts b)) : Nat) : Int))) ∧
  ((∀ (i1 : Nat), ((i1 < 2) → ((IntKind.i64 = IntKind.i64) ∧ (IntKind.i64 = IntKind.i64)))) ∧
  (((! (List.all (List.range 2) (fun (i1 : Nat) => ((W.two (Prod.fst (W.pAt (W.Net.cuts a) i)) (Prod.snd (W.pAt (W.Net.cuts a) i)) i1) == (W.two (Prod.fst (W.pAt (W.Net.cuts b) i)) (Prod.snd (W.pAt (W.Net.cuts b) i)) i1))))) = true →
  (Φ Ex.ret (St.mk [(2, (AV.ptr 2 [])), (3, (AV.ptr 3 [])), (4, (AV.v (Value.bool false))), (6, (AV.i ((i : Nat) : Int))), (52, (AV.v (Value.bool true))), (65, (AV.v (Value.bool true)))] [(2, (Blk.c (W.netA false false a))), (3, (Blk.c (W.netA false false b)))] [2, 3]))) ∧
  ((! (List.all (List.range 2) (fun (i1 : Nat) => ((W.two (Prod.fst (W.pAt (W.Net.cuts a) i)) (Prod.snd (W.pAt (W.Net.cuts a) i)) i1) == (W.two (Prod.fst (W.pAt (W.Net.cuts b) i)) (Prod.snd (W.pAt (W.Net.cuts b) i)) i1))))) = false →
  ((I64 (((i + 1) : Nat) : Int)) ∧
   ((RoundQ C 66 [] K (I_sm1 a b) (fun i => i ≤ a.cuts.length ∧ ∀ k, k < i → pAt a.cuts k = pAt b.cuts k) (fun i => a.cuts.length - i) ((fun i => a.cuts.length - i) (i)) (rest_same_1 K Φ)) Ex.normal (St.mk [(2, (AV.ptr 2 [])), (3, (AV.ptr 3 [])), (6, (AV.i (((i + 1) : Nat) : Int))), (52, (AV.v (Value.bool true))), (65, (AV.v (Value.bool false)))] [(2, (Blk.c (W.netA false false a))), (3, (Blk.c (W.netA false false b)))] [2, 3]))))))))) ∧
 ((decide (((i : Nat) : Int) < (((List.length (W.Net.cuts a)) : Nat) : Int))) = false →
 (Φ Ex.ret (St.mk [(2, (AV.ptr 2 [])), (3, (AV.ptr 3 [])), (4, (AV.v (Value.bool true))), (6, (AV.i ((i : Nat) : Int))), (52, (AV.v (Value.bool false)))] [(2, (Blk.c (W.netA false false a))), (3, (Blk.c (W.netA false false b)))] [2, 3])))) := by kernel_rfl
theorem sameT_A (a b : Net) (p q : Pk) (e f : Int) (K : Nat) (Φ : Ex → St → Prop) :
  (Holds C P 24 [] K Φ (vc C w_sameT b_sameT [] (start [takA a p e, takA b q f] []) lf)) =
  (Fun W.C W.P 15 [(W.netA false false a), (W.netA false false b)] [] (AV.sb (W.sameB (W.toN (W.netA false false a)) (W.toN (W.netA false false b)))) [] ∧
 (True ∧
 (((W.sameB (W.toN (W.netA false false a)) (W.toN (W.netA false false b))) = true →
 (((((Prod.fst p) == (Prod.fst q)) && (((Prod.fst (Prod.snd p)) == (Prod.fst (Prod.snd q))) && (((Prod.snd (Prod.snd p)) == (Prod.snd (Prod.snd q))) && true))) = true →
  (Φ Ex.ret (St.mk [(0, (AV.st [(W.netA false false a), (W.pkA p), (AV.i e)])), (1, (AV.st [(W.netA false false b), (W.pkA q), (AV.i f)])), (2, (AV.ptr 2 [])), (3, (AV.ptr 3 [])), (4, (AV.sb (e == f)))] [(2, (Blk.c (AV.st [(W.netA false false a), (W.pkA p), (AV.i e)]))), (3, (Blk.c (AV.st [(W.netA false false b), (W.pkA q), (AV.i f)])))] [3, 2]))) ∧
  ((((Prod.fst p) == (Prod.fst q)) && (((Prod.fst (Prod.snd p)) == (Prod.fst (Prod.snd q))) && (((Prod.snd (Prod.snd p)) == (Prod.snd (Prod.snd q))) && true))) = false →
  (Φ Ex.ret (St.mk [(0, (AV.st [(W.netA false false a), (W.pkA p), (AV.i e)])), (1, (AV.st [(W.netA false false b), (W.pkA q), (AV.i f)])), (2, (AV.ptr 2 [])), (3, (AV.ptr 3 [])), (4, (AV.v (Value.bool false)))] [(2, (Blk.c (AV.st [(W.netA false false a), (W.pkA p), (AV.i e)]))), (3, (Blk.c (AV.st [(W.netA false false b), (W.pkA q), (AV.i f)])))] [3, 2]))))) ∧
 ((W.sameB (W.toN (W.netA false false a)) (W.toN (W.netA false false b))) = false →
 (Φ Ex.ret (St.mk [(0, (AV.st [(W.netA false false a), (W.pkA p), (AV.i e)])), (1, (AV.st [(W.netA false false b), (W.pkA q), (AV.i f)])), (2, (AV.ptr 2 [])), (3, (AV.ptr 3 [])), (4, (AV.v (Value.bool false)))] [(2, (Blk.c (AV.st [(W.netA false false a), (W.pkA p), (AV.i e)]))), (3, (Blk.c (AV.st [(W.netA false false b), (W.pkA q), (AV.i f)])))] [3, 2])))))) := by kernel_rfl
theorem sent_A (n : Net) (a b : Int) (K : Nat) (Φ : Ex → St → Prop) :
  (Holds C P 22 [] K Φ (vc C w_sent b_sent [] (start [netD n, .i a, .i b] []) lf)) =
  (Fun W.C W.P 29 [(W.netA false false n), (AV.i a), (AV.i b)] [] (AV.tup [(W.netA false false (W.sendN (W.toN (W.netA false false n)) a b)), (AV.i (W.sendI (W.toN (W.netA false false n)) a b)), (AV.i (W.sendE (W.toN (W.netA false false n)) a b))]) [] ∧
 ((W.ShK) ∧
 (((W.ShK) ∧ (((true = true) ∧ (true = true)) ∧ (((true = true) ∧ (true = true)) ∧ True))) ∧
 (Φ Ex.ret (St.mk [(0, (W.netA false false n)), (1, (AV.i a)), (2, (AV.i b)), (3, (AV.ptr 3 [])), (6, (AV.ptr 6 [])), (7, (AV.ptr 7 [])), (8, (AV.i (W.sendI (W.toN (W.netA false false n)) a b))), (9, (AV.i (W.sendE (W.toN (W.netA false false n)) a b)))] [(3, (Blk.c (W.netA false false n))), (6, (Blk.c (AV.st [(W.netA false false (W.sendN (W.toN (W.netA false false n)) a b)), (AV.i (W.sendI (W.toN (W.netA false false n)) a b)), (AV.i (W.sendE (W.toN (W.netA false false n)) a b))]))), (7, (Blk.c (W.netA false false (W.sendN (W.toN (W.netA false false n)) a b))))] [7, 6, 3]))))) := by kernel_rfl
theorem taken_A (n : Net) (id : Int) (K : Nat) (Φ : Ex → St → Prop) :
  (Holds C P 19 [] K Φ (vc C w_taken b_taken [] (start [netD n, .i id] []) lf)) =
  (Fun W.C W.P 31 [(W.netA false false n), (AV.i id)] [] (AV.tup [(W.netA false false (W.takeN (W.toN (W.netA false false n)) id)), (W.pkA (W.takeP (W.toN (W.netA false false n)) id)), (AV.i (W.takeE (W.toN (W.netA false false n)) id))]) [] ∧
 ((W.ShK) ∧
 ((W.ShK) ∧
 (((W.ShK) ∧ ((W.ShK) ∧ (((true = true) ∧ (true = true)) ∧ True))) ∧
 (Φ Ex.ret (St.mk [(0, (W.netA false false n)), (1, (AV.i id)), (2, (AV.ptr 2 [])), (4, (AV.ptr 4 [])), (5, (AV.ptr 5 [])), (6, (AV.ptr 6 [])), (7, (AV.i (W.takeE (W.toN (W.netA false false n)) id)))] [(2, (Blk.c (W.netA false false n))), (4, (Blk.c (AV.st [(W.netA false false (W.takeN (W.toN (W.netA false false n)) id)), (W.pkA (W.takeP (W.toN (W.netA false false n)) id)), (AV.i (W.takeE (W.toN (W.netA false false n)) id))]))), (5, (Blk.c (W.netA false false (W.takeN (W.toN (W.netA false false n)) id)))), (6, (Blk.c (W.pkA (W.takeP (W.toN (W.netA false false n)) id))))] [6, 5, 4, 2])))))) := by kernel_rfl
theorem done_A (n : Net) (q : Int) (w : PI) (K : Nat) (Φ : Ex → St → Prop) :
  (Holds C P 52 [] K Φ (vc C w_done b_done [] (start [netD n, .i q, prA w] []) lf)) =
  ((W.ShK) ∧
 (((q == (0 : Int)) = true →
 ((((0 : Int) ≤ (0 : Int)) ∧ ((0 : Int) < (2 : Int))) ∧
  (Fun W.C W.P 38 [(W.netA false false n), (AV.i (W.two (Prod.fst w) (Prod.snd w) 0))] [] (AV.tup [(W.netA false false (W.loseN (W.toN (W.netA false false n)) (W.two (Prod.fst w) (Prod.snd w) 0))), (AV.i (W.loseE (W.toN (W.netA false false n)) (W.two (Prod.fst w) (Prod.snd w) 0)))]) [] ∧
  ((W.ShK) ∧
  (((W.ShK) ∧ ((W.ShK) ∧ (((true = true) ∧ (true = true)) ∧ True))) ∧
  (Φ Ex.ret (St.mk [(0, (W.netA false false n)), (1, (AV.i q)), (2, (W.prA w)), (3, (AV.ptr 3 [])), (5, (AV.ptr 5 [])), (6, (AV.ptr 6 [])), (7, (AV.ptr 7 [])), (8, (AV.i (W.loseE (W.toN (W.netA false false n)) (W.two (Prod.fst w) (Prod.snd w) 0)))), (10, (AV.i q)), (20, (AV.v (Value.bool true)))] [(3, (Blk.c (W.netA false false n))), (5, (Blk.c (W.prA w))), (6, (Blk.c (AV.st [(W.netA false false (W.loseN (W.toN (W.netA false false n)) (W.two (Prod.fst w) (Prod.snd w) 0))), (AV.st [(AV.i (0 : Int)), (AV.i (0 : Int)), (AV.i (0 : Int))]), (AV.i (W.loseE (W.toN (W.netA false false n)) (W.two (Prod.fst w) (Prod.snd w) 0)))]))), (7, (Blk.c (W.netA false false (W.loseN (W.toN (W.netA false false n)) (W.two (Prod.fst w) (Prod.snd w) 0)))))] [7, 6, 5, 3]))))))) ∧
 ((q == (0 : Int)) = false →
 (((q == (1 : Int)) = true →
  ((((0 : Int) ≤ (0 : Int)) ∧ ((0 : Int) < (2 : Int))) ∧
   (Fun W.C W.P 39 [(W.netA false false n), (AV.i (W.two (Prod.fst w) (Prod.snd w) 0))] [] (AV.tup [(W.netA false false (W.dblN (W.toN (W.netA false false n)) (W.two (Prod.fst w) (Prod.snd w) 0))), (AV.i (W.dblE (W.toN (W.netA false false n)) (W.two (Prod.fst w) (Prod.snd w) 0)))]) [] ∧
   ((W.ShK) ∧
   (((W.ShK) ∧ ((W.ShK) ∧ (((true = true) ∧ (true = true)) ∧ True))) ∧
   (Φ Ex.ret (St.mk [(0, (W.netA false false n)), (1, (AV.i q)), (2, (W.prA w)), (3, (AV.ptr 3 [])), (5, (AV.ptr 5 [])), (6, (AV.ptr 6 [])), (7, (AV.ptr 7 [])), (8, (AV.i (W.dblE (W.toN (W.netA false false n)) (W.two (Prod.fst w) (Prod.snd w) 0)))), (10, (AV.i q)), (20, (AV.v (Value.bool false))), (29, (AV.v (Value.bool true)))] [(3, (Blk.c (W.netA false false n))), (5, (Blk.c (W.prA w))), (6, (Blk.c (AV.st [(W.netA false false (W.dblN (W.toN (W.netA false false n)) (W.two (Prod.fst w) (Prod.snd w) 0))), (AV.st [(AV.i (0 : Int)), (AV.i (0 : Int)), (AV.i (0 : Int))]), (AV.i (W.dblE (W.toN (W.netA false false n)) (W.two (Prod.fst w) (Prod.snd w) 0)))]))), (7, (Blk.c (W.netA false false (W.dblN (W.toN (W.netA false false n)) (W.two (Prod.fst w) (Prod.snd w) 0)))))] [7, 6, 5, 3]))))))) ∧
  ((q == (1 : Int)) = false →
  (((q == (2 : Int)) = true →
   ((((0 : Int) ≤ (0 : Int)) ∧ ((0 : Int) < (2 : Int))) ∧
    ((((0 : Int) ≤ (1 : Int)) ∧ ((1 : Int) < (2 : Int))) ∧
    (Fun W.C W.P 40 [(W.netA false false n), (AV.i (W.two (Prod.fst w) (Prod.snd w) 0)), (AV.i (W.two (Prod.fst w) (Prod.snd w) 1))] [] (AV.tup [(W.netA false false (W.sevN (W.toN (W.netA false false n)) (W.two (Prod.fst w) (Prod.snd w) 0) (W.two (Prod.fst w) (Prod.snd w) 1))), (AV.i (W.sevE (W.toN (W.netA false false n)) (W.two (Prod.fst w) (Prod.snd w) 0) (W.two (Prod.fst w) (Prod.snd w) 1)))]) [] ∧
    ((W.ShK) ∧
    (((W.ShK) ∧ ((W.ShK) ∧ (((true = true) ∧ (true = true)) ∧ True))) ∧
    (Φ Ex.ret (St.mk [(0, (W.netA false false n)), (1, (AV.i q)), (2, (W.prA w)), (3, (AV.ptr 3 [])), (5, (AV.ptr 5 [])), (6, (AV.ptr 6 [])), (7, (AV.ptr 7 [])), (8, (AV.i (W.sevE (W.toN (W.netA false false n)) (W.two (Prod.fst w) (Prod.snd w) 0) (W.two (Prod.fst w) (Prod.snd w) 1)))), (10, (AV.i q)), (20, (AV.v (Value.bool false))), (29, (AV.v (Value.bool false))), (38, (AV.v (Value.bool true)))] [(3, (Blk.c (W.netA false false n))), (5, (Blk.c (W.prA w))), (6, (Blk.c (AV.st [(W.netA false false (W.sevN (W.toN (W.netA false false n)) (W.two (Prod.fst w) (Prod.snd w) 0) (W.two (Prod.fst w) (Prod.snd w) 1))), (AV.st [(AV.i (0 : Int)), (AV.i (0 : Int)), (AV.i (0 : Int))]), (AV.i (W.sevE (W.toN (W.netA false false n)) (W.two (Prod.fst w) (Prod.snd w) 0) (W.two (Prod.fst w) (Prod.snd w) 1)))]))), (7, (Blk.c (W.netA false false (W.sevN (W.toN (W.netA false false n)) (W.two (Prod.fst w) (Prod.snd w) 0) (W.two (Prod.fst w) (Prod.snd w) 1)))))] [7, 6, 5, 3])))))))) ∧
   ((q == (2 : Int)) = false →
   ((((0 : Int) ≤ (0 : Int)) ∧ ((0 : Int) < (2 : Int))) ∧
    ((((0 : Int) ≤ (1 : Int)) ∧ ((1 : Int) < (2 : Int))) ∧
    (Fun W.C W.P 41 [(W.netA false false n), (AV.i (W.two (Prod.fst w) (Prod.snd w) 0)), (AV.i (W.two (Prod.fst w) (Prod.snd w) 1))] [] (AV.tup [(W.netA false false (W.healN (W.toN (W.netA false false n)) (W.two (Prod.fst w) (Prod.snd w) 0) (W.two (Prod.fst w) (Prod.snd w) 1))), (AV.i (W.healE (W.two (Prod.fst w) (Prod.snd w) 0) (W.two (Prod.fst w) (Prod.snd w) 1)))]) [] ∧
    ((W.ShK) ∧
    (((W.ShK) ∧ ((W.ShK) ∧ (((true = true) ∧ (true = true)) ∧ True))) ∧
    (Φ Ex.ret (St.mk [(0, (W.netA false false n)), (1, (AV.i q)), (2, (W.prA w)), (3, (AV.ptr 3 [])), (5, (AV.ptr 5 [])), (6, (AV.ptr 6 [])), (7, (AV.ptr 7 [])), (8, (AV.i (W.healE (W.two (Prod.fst w) (Prod.snd w) 0) (W.two (Prod.fst w) (Prod.snd w) 1)))), (10, (AV.i q)), (20, (AV.v (Value.bool false))), (29, (AV.v (Value.bool false))), (38, (AV.v (Value.bool false)))] [(3, (Blk.c (W.netA false false n))), (5, (Blk.c (W.prA w))), (6, (Blk.c (AV.st [(W.netA false false (W.healN (W.toN (W.netA false false n)) (W.two (Prod.fst w) (Prod.snd w) 0) (W.two (Prod.fst w) (Prod.snd w) 1))), (AV.st [(AV.i (0 : Int)), (AV.i (0 : Int)), (AV.i (0 : Int))]), (AV.i (W.healE (W.two (Prod.fst w) (Prod.snd w) 0) (W.two (Prod.fst w) (Prod.snd w) 1)))]))), (7, (Blk.c (W.netA false false (W.healN (W.toN (W.netA false false n)) (W.two (Prod.fst w) (Prod.snd w) 0) (W.two (Prod.fst w) (Prod.snd w) 1)))))] [7, 6, 5, 3])))))))))))))) := by kernel_rfl
theorem ins_split {α : Type} (x : α) : ∀ (l : List α) (i : Nat), i ≤ l.length → l.insertIdx i x = l.take i ++ x :: l.drop i
  | l, 0, _ => by simp
  | [], i + 1, h => by simp at h
  | y :: r, i + 1, h => by
    rw [List.insertIdx_succ_cons, ins_split x r i (by simpa using h)]; rfl
theorem parts_of {a b : Int} (h : partsB a b = true) : partsB (ofI a b).1 (ofI a b).2 = true ∧ ofI a b = ofI (ofI a b).1 (ofI a b).2 := by
  simp only [partsB, Bool.and_eq_true, decide_eq_true_eq] at h ⊢
  unfold ofI
  dsimp only
  rcases Int.le_total a b with hl | hl
  · rw [Int.min_eq_left hl, Int.max_eq_right hl]
    refine ⟨by omega, ?_⟩
    rw [Int.min_eq_left hl, Int.max_eq_right hl]
  · rw [Int.min_eq_right hl, Int.max_eq_left hl]
    refine ⟨by omega, ?_⟩
    rw [Int.min_eq_left hl, Int.max_eq_right hl]
theorem VN.add {n : Net} (h : VN n) {a b : Int} (hp : partsB a b = true) (hb : addB n = true) : VN ⟨n.fly ++ [(n.next, a, b)], n.cuts, n.next + 1⟩ := by
  obtain ⟨h1, h2, h3, h4, h5, h6, h7, h8⟩ := h
  obtain ⟨b1, b2⟩ := addB_t.1 hb
  refine ⟨List.pairwise_append.2 ⟨h1, List.pairwise_singleton _ _, fun x hx y hy => ?_⟩, fun p hp2 => ?_, h3, h4, by simp; omega, h6, ?_, ?_⟩
  · rw [List.mem_singleton.1 hy]; exact (h2 x hx).2.1
  · rcases List.mem_append.1 hp2 with hp2 | hp2
    · have := h2 p hp2; refine ⟨this.1, ?_, this.2.2⟩; show p.1 < n.next + 1; omega
    · rw [List.mem_singleton.1 hp2]; refine ⟨h7, ?_, hp⟩; show n.next < n.next + 1; omega
  · show 1 ≤ n.next + 1; omega
  · show n.next + 1 ≤ 1000000000; omega
theorem VN.erase {n : Net} (h : VN n) (i : Nat) : VN (withoutN n i) := by
  obtain ⟨h1, h2, h3, h4, h5, h6, h7, h8⟩ := h
  have hs := List.eraseIdx_sublist n.fly i
  exact ⟨h1.sublist hs, fun p hp => h2 p (hs.subset hp), h3, h4, Nat.le_trans hs.length_le h5, h6, h7, h8⟩
theorem VN.ins {n : Net} (h : VN n) {a b : Int} (hp : partsB a b = true) (hr : reachN n a b = true) (hl : n.cuts.length < 200) : VN ⟨n.fly, n.cuts.insertIdx (cutI n a b) (ofI a b), n.next⟩ := by
  obtain ⟨s1, s2, s3, _⟩ := bs_spec (mono_P h.2.2.1 (ofI a b))
  have hmiss : ∀ k, k < n.cuts.length → pAt n.cuts k ≠ ofI a b := fun k hk e => by have := (h.cutHit hk e).2; rw [hr] at this; cases this
  obtain ⟨h1, h2, h3, h4, h5, h6, h7, h8⟩ := h
  change cutI n a b ≤ _ at s1
  rw [ins_split _ _ _ s1]
  refine ⟨h1, h2, ?_, fun x hx => ?_, h5, ?_, h7, h8⟩
  · show List.Pairwise (fun x y => ordP x y < 0) _
    rw [List.pairwise_append, List.pairwise_cons]
    refine ⟨h3.sublist (List.take_sublist _ _), ⟨fun y hy => ?_, h3.sublist (List.drop_sublist _ _)⟩, fun y hy z hz => ?_⟩
    · obtain ⟨j, hj, rfl⟩ := List.getElem_of_mem hy
      rw [List.length_drop] at hj
      rw [List.getElem_drop]
      have g := s3 (cutI n a b + j) (Nat.le_add_right _ _) (by omega)
      change 0 ≤ ordP (pAt n.cuts (cutI n a b + j)) (ofI a b) at g
      have g2 := hmiss (cutI n a b + j) (by omega)
      rw [pAt_lt (by omega)] at g g2
      exact ordP_total (by omega) g2
    · have hy1 : ordP y (ofI a b) < 0 := by
        obtain ⟨j, hj, rfl⟩ := List.getElem_of_mem hy
        rw [List.length_take] at hj
        have g := s2 j (show j < cutI n a b by omega)
        change ordP (pAt n.cuts j) (ofI a b) < 0 at g
        rw [pAt_lt (by omega)] at g
        rwa [List.getElem_take]
      rcases List.mem_cons.1 hz with rfl | hz
      · exact hy1
      · have hp2 := h3
        rw [← List.take_append_drop (cutI n a b) n.cuts, List.pairwise_append] at hp2
        exact hp2.2.2 y hy z hz
  · rcases List.mem_append.1 hx with hx | hx
    · exact h4 x (List.mem_of_mem_take hx)
    · rcases List.mem_cons.1 hx with rfl | hx
      · exact parts_of hp
      · exact h4 x (List.mem_of_mem_drop hx)
  · simp; omega
theorem VN.filt {n : Net} (h : VN n) (x : PI) : VN ⟨n.fly, filtL n.cuts x, n.next⟩ := by
  obtain ⟨h1, h2, h3, h4, h5, h6, h7, h8⟩ := h
  have hs : (filtL n.cuts x).Sublist n.cuts := List.filter_sublist
  exact ⟨h1, h2, h3.sublist hs, fun p hp => h4 p (hs.subset hp), h5, Nat.le_trans hs.length_le h6, h7, h8⟩
theorem VN.send {n : Net} (h : VN n) (a b : Int) : VN (sendN n a b) := by
  unfold sendN
  split
  · rename_i he
    unfold sendE at he
    cases hp : partsB a b with
    | false => rw [hp] at he; simp at he
    | true =>
      rw [hp] at he
      cases hb : addB n with
      | false => rw [hb] at he; simp at he
      | true => unfold addN; rw [hb]; exact h.add hp hb
  · exact h
theorem VN.lose {n : Net} (h : VN n) (id : Int) : VN (loseN n id) := by
  unfold loseN
  split
  · exact h.erase _
  · exact h
theorem VN.take {n : Net} (h : VN n) (id : Int) : VN (takeN n id) := by
  unfold takeN
  split
  · exact h.lose id
  · exact h
theorem VN.mem {n : Net} (h : VN n) {id : Int} (hf : findB n id = true) : pkN n id ∈ n.fly := by
  have hlt := (h.find hf).1
  rw [show pkN n id = n.fly[findI n id] from kAt_lt hlt]; exact List.getElem_mem hlt
theorem VN.dbl {n : Net} (h : VN n) (id : Int) : VN (dblN n id) := by
  unfold dblN
  split
  · rename_i he
    unfold dblE at he
    cases hf : findB n id with
    | false => rw [hf] at he; simp at he
    | true =>
      rw [hf] at he
      cases hb : addB n with
      | false => rw [hb] at he; simp at he
      | true => unfold addN; rw [hb]; exact h.add (h.2.1 _ (h.mem hf)).2.2 hb
  · exact h
theorem VN.sev {n : Net} (h : VN n) (a b : Int) : VN (sevN n a b) := by
  unfold sevN
  split
  · rename_i he
    simp only [Bool.and_eq_true, decide_eq_true_eq] at he
    exact h.ins he.1.1 he.1.2 he.2
  · exact h
theorem VN.heal {n : Net} (h : VN n) (a b : Int) : VN (healN n a b) := by
  unfold healN
  split
  · exact h.filt _
  · exact h
theorem VN.done {n : Net} (h : VN n) (q : Int) (w : PI) : VN (doneN n q w) := by
  unfold doneN
  split
  · exact h.lose _
  · split
    · exact h.dbl _
    · split
      · exact h.sev _ _
      · exact h.heal _ _
theorem VN.step {n : Net} (h : VN n) (x : Tri) : VN (stepN n x) := by
  unfold stepN
  split
  · exact h.send _ _
  · split
    · exact h.take _
    · split
      · exact h.lose _
      · split
        · exact h.dbl _
        · split
          · exact h.sev _ _
          · exact h.heal _ _
theorem VN.zero (k : Int) (h1 : 1 ≤ k) (h2 : k ≤ 1000000000) : VN ⟨[], [], k⟩ :=
  ⟨List.Pairwise.nil, (fun p hp => absurd hp List.not_mem_nil), List.Pairwise.nil, (fun x hx => absurd hx List.not_mem_nil), Nat.zero_le _, Nat.zero_le _, h1, h2⟩
theorem VN.made (l : List Tri) (i : Nat) : VN (madeI l i) := by
  have key : ∀ (l : List Tri) (n : Net), VN n → VN (l.foldl stepN n) := by
    intro l
    induction l with
    | nil => exact fun n h => h
    | cons x r ih => exact fun n h => ih _ (h.step x)
  exact key _ _ (.zero 1 (by decide) (by decide))
theorem vB_VN {n : Net} : vB n = true ↔ VN n := by
  constructor
  · intro h
    simp only [vB, Bool.and_eq_true, decide_eq_true_eq, List.all_eq_true, List.mem_range] at h
    obtain ⟨⟨⟨⟨⟨h1, h2⟩, h3⟩, h4⟩, h5⟩, h6⟩ := h
    have hs : ∀ i j, i < j → j < n.fly.length → (kAt n.fly i).1 < (kAt n.fly j).1 := fun i j hij hj => by
      induction j with
      | zero => omega
      | succ j ih =>
        have := (flyOK_iff.1 (h1 (j + 1) hj)).2.2.2
        rw [Nat.add_sub_cancel] at this
        by_cases e : i = j
        · subst e; omega
        · have := ih (by omega) (by omega); omega
    have ho : ∀ i j, i < j → j < n.cuts.length → ordP (pAt n.cuts i) (pAt n.cuts j) < 0 := fun i j hij hj => by
      induction j with
      | zero => omega
      | succ j ih =>
        have h0 := (cutOK_iff.1 (h2 (j + 1) hj)).2.2
        rw [Nat.add_sub_cancel] at h0
        have h0 : ordP (pAt n.cuts j) (pAt n.cuts (j + 1)) < 0 := h0.resolve_left (by omega)
        by_cases e : i = j
        · subst e; exact h0
        · exact ordP_trans (ih (by omega) (by omega)) h0
    refine ⟨List.pairwise_iff_getElem.2 fun i j hi hj hij => ?_, fun p hp => ?_, List.pairwise_iff_getElem.2 fun i j hi hj hij => ?_, fun x hx => ?_, h3, h4, h5, h6⟩
    · have := hs i j hij hj; rwa [kAt_lt hi, kAt_lt hj] at this
    · obtain ⟨i, hi, rfl⟩ := List.getElem_of_mem hp
      have := flyOK_iff.1 (h1 i hi)
      rw [kAt_lt hi] at this
      exact ⟨this.1, this.2.1, this.2.2.1⟩
    · have := ho i j hij hj; rwa [pAt_lt hi, pAt_lt hj] at this
    · obtain ⟨i, hi, rfl⟩ := List.getElem_of_mem hx
      have := cutOK_iff.1 (h2 i hi)
      rw [pAt_lt hi] at this
      refine ⟨this.1, ?_⟩
      unfold ofI
      rw [Int.min_eq_left this.2.1, Int.max_eq_right this.2.1]
  · rintro ⟨h1, h2, h3, h4, h5, h6, h7, h8⟩
    rw [vB_all, decide_eq_true h5, decide_eq_true h6, decide_eq_true h7, decide_eq_true h8]; rfl
    · intro i hi
      have := h2 n.fly[i] (List.getElem_mem hi)
      rw [flyOK_iff, kAt_lt hi]
      refine ⟨this.1, this.2.1, this.2.2, ?_⟩
      by_cases e : i = 0
      · exact .inl e
      · right
        rw [kAt_lt (by omega)]
        exact List.pairwise_iff_getElem.1 h1 (i - 1) i (by omega) hi (by omega)
    · intro i hi
      have := h4 n.cuts[i] (List.getElem_mem hi)
      rw [cutOK_iff, pAt_lt hi]
      refine ⟨this.1, ?_, ?_⟩
      · rw [this.2]; exact Int.le_trans (Int.min_le_left _ _) (Int.le_max_left _ _)
      · by_cases e : i = 0
        · exact .inl e
        · right
          rw [pAt_lt (by omega)]
          exact List.pairwise_iff_getElem.1 h3 (i - 1) i (by omega) hi (by omega)
theorem valid_ok {n : Net} (h : VN n) : vB n = true := vB_VN.2 h
theorem pk_eq {x y : Pk} : ((x.1 == y.1) && ((x.2.1 == y.2.1) && ((x.2.2 == y.2.2) && true))) = decide (x = y) := by
  obtain ⟨a, b, c⟩ := x
  obtain ⟨d, e, f⟩ := y
  simp only [Prod.mk.injEq, Bool.and_true, Bool.decide_and]
  rw [beq_dec, beq_dec, beq_dec]
theorem same_fun (a b : Net) (ha : a.fly.length < 2 ^ 40) (hc : a.cuts.length < 2 ^ 40) : Fun C P F_same [netD a, netD b] [] (.sb (sameB a b)) [] := by
  refine in_same (W := w_same) rfl 0 (by simp) rfl (fun id h => absurd rfl h) ?_
  rw [same_A a b 0 _]
  have nf : ¬ (a.fly = b.fly ∧ a.cuts = b.cuts ∧ a.next = b.next) → sameB a b = false := fun h => Bool.eq_false_iff.2 fun hs => by
    simp only [sameB, Bool.and_eq_true, decide_eq_true_eq] at hs
    exact h ⟨hs.1.1, hs.1.2, hs.2⟩
  refine ⟨fun h1 => ?_, fun h1 => ⟨fun h2 => ?_, fun h2 => ⟨fun h3 => ?_, fun h3 => ?_⟩⟩⟩
  · refine post_tmp rfl (sm_b ?_)
    rw [nf fun h => by rw [h.1] at h1; simp at h1]
  · refine post_tmp rfl (sm_b ?_)
    rw [nf fun h => by rw [h.2.1] at h2; simp at h2]
  · refine post_tmp rfl (sm_b ?_)
    rw [nf fun h => by rw [h.2.2] at h3; simp at h3]
  have h1 : a.fly.length = b.fly.length := by simp only [bne_eq_false_iff_eq] at h1; omega
  have h2 : a.cuts.length = b.cuts.length := by simp only [bne_eq_false_iff_eq] at h2; omega
  have h3 : a.next = b.next := by simpa using h3
  refine loop_inv (W := w_same) ctx mixed ok_same_0 (I_sm0 a b) (fun i => i ≤ a.fly.length ∧ ∀ k, k < i → kAt a.fly k = kAt b.fly k) (fun i => a.fly.length - i) 0 ⟨Nat.zero_le _, fun k hk => by omega⟩ ?_ fun i hi => ?_
  · exact ent_of [(2, 2), (3, 3)] rfl (tm_cons rfl (sm_ptr rfl) (tm_cons rfl (sm_ptr rfl) (tm_cons rfl (sm_same rfl) tm_nil))) (hp_cons rfl rfl (sm_same rfl) (hp_cons rfl rfl (sm_same rfl) hp_nil))
  obtain ⟨hi, hz⟩ := hi
  refine of_eq (same_L0 a b i 0 _) ?_
  refine ⟨fun h4 => ?_, fun h4 => ?_⟩
  · have h4 := of_decide_eq_true h4
    rw [pk_eq]
    refine ⟨(by first | omega | decide | (unfold I64; omega)), (by first | omega | decide | (unfold I64; omega)), fun h5 => ?_, fun h5 => ⟨(by first | omega | decide | (unfold I64; omega)), ?_⟩⟩
    · have h5 := of_decide_eq_false (bnt h5)
      exact post_tmp rfl (sm_b (by rw [nf fun h => h5 (by rw [h.1])]))
    · have h5 := of_decide_eq_true (bnf h5)
      exact round_end (i + 1) ⟨by omega, fun k hk => by
        by_cases e : k = i
        · rw [e]; exact h5
        · exact hz k (by omega)⟩ (ent_of [(2, 2), (3, 3)] rfl (tm_cons rfl (sm_ptr rfl) (tm_cons rfl (sm_ptr rfl) (tm_cons rfl (sm_same rfl) tm_nil))) (hp_cons rfl rfl (sm_same rfl) (hp_cons rfl rfl (sm_same rfl) hp_nil))) (by dsimp only; omega)
  have h4 := of_decide_eq_false h4
  obtain rfl : i = a.fly.length := by omega
  have ef : a.fly = b.fly := List.ext_getElem h1 fun k hk hk2 => by
    have := hz k hk
    rwa [kAt_lt hk, kAt_lt hk2] at this
  refine loop_inv (W := w_same) ctx mixed ok_same_1 (I_sm1 a b) (fun i => i ≤ a.cuts.length ∧ ∀ k, k < i → pAt a.cuts k = pAt b.cuts k) (fun i => a.cuts.length - i) 0 ⟨Nat.zero_le _, fun k hk => by omega⟩ ?_ fun i hi => ?_
  · exact ent_of [(2, 2), (3, 3)] rfl (tm_cons rfl (sm_ptr rfl) (tm_cons rfl (sm_ptr rfl) (tm_cons rfl (sm_same rfl) tm_nil))) (hp_cons rfl rfl (sm_same rfl) (hp_cons rfl rfl (sm_same rfl) hp_nil))
  obtain ⟨hi, hy⟩ := hi
  refine of_eq (same_L1 a b i 0 _) ?_
  refine ⟨fun h4 => ?_, fun h4 => ?_⟩
  · have h4 := of_decide_eq_true h4
    rw [pr_eq]
    refine ⟨(by first | omega | decide | (unfold I64; omega)), (by first | omega | decide | (unfold I64; omega)), fun _ _ => ⟨rfl, rfl⟩, fun h5 => ?_, fun h5 => ⟨(by first | omega | decide | (unfold I64; omega)), ?_⟩⟩
    · have h5 := of_decide_eq_false (bnt h5)
      exact post_tmp rfl (sm_b (by rw [nf fun h => h5 (by rw [h.2.1])]))
    · have h5 := of_decide_eq_true (bnf h5)
      exact round_end (i + 1) ⟨by omega, fun k hk => by
        by_cases e : k = i
        · rw [e]; exact h5
        · exact hy k (by omega)⟩ (ent_of [(2, 2), (3, 3)] rfl (tm_cons rfl (sm_ptr rfl) (tm_cons rfl (sm_ptr rfl) (tm_cons rfl (sm_same rfl) tm_nil))) (hp_cons rfl rfl (sm_same rfl) (hp_cons rfl rfl (sm_same rfl) hp_nil))) (by dsimp only; omega)
  · have h4 := of_decide_eq_false h4
    obtain rfl : i = a.cuts.length := by omega
    have ec : a.cuts = b.cuts := List.ext_getElem h2 fun k hk hk2 => by
      have := hy k hk
      rwa [pAt_lt hk, pAt_lt hk2] at this
    refine post_tmp rfl (sm_b ?_)
    have : sameB a b = true := by
      simp only [sameB, Bool.and_eq_true, decide_eq_true_eq]
      exact ⟨⟨ef, ec⟩, h3⟩
    rw [this]
theorem sameT_fun (a b : Net) (p q : Pk) (e f : Int) (ha : a.fly.length < 2 ^ 40) (hc : a.cuts.length < 2 ^ 40) : Fun C P F_sameT [takA a p e, takA b q f] [] (.sb (sameTB (a, p, e) (b, q, f))) [] := by
  refine in_sameT (W := w_sameT) rfl 0 (by simp) rfl (fun id h => absurd rfl h) ?_
  rw [sameT_A a b p q e f 0 _]
  have e0 : toN (netD a) = a := toN_net false false a
  have e1 : toN (netD b) = b := toN_net false false b
  rw [e0, e1, pk_eq]
  unfold sameTB
  refine ⟨same_fun a b ha hc, trivial, fun h1 => ⟨fun h2 => post_tmp rfl (sm_sb ?_), fun h2 => post_tmp rfl (sm_b ?_)⟩, fun h1 => post_tmp rfl (sm_b ?_)⟩
  · rw [h1, h2]; exact beq_dec e f
  · rw [h1, h2]; rfl
  · rw [h1]; rfl
theorem sent_fun {n : Net} (h : VN n) (a b : Int) : Fun C P F_sent [netD n, .i a, .i b] [] (senA (sendN n a b) (sendI n a b) (sendE n a b)) [] := by
  refine in_sent (W := w_sent) rfl 0 (by simp) rfl (fun id h => absurd rfl h) ?_
  refine of_eq (sent_A n a b 0 _) ?_
  have e0 : toN (netD n) = n := toN_net false false n
  rw [e0]
  exact ⟨send_fun h a b, by simp, by simp, post_cellF [] rfl rfl (sm_same rfl) rfl rfl⟩
theorem taken_fun {n : Net} (h : VN n) (id : Int) : Fun C P F_taken [netD n, .i id] [] (takA (takeN n id) (takeP n id) (takeE n id)) [] := by
  refine in_taken (W := w_taken) rfl 0 (by simp) rfl (fun id h => absurd rfl h) ?_
  refine of_eq (taken_A n id 0 _) ?_
  have e0 : toN (netD n) = n := toN_net false false n
  rw [e0]
  exact ⟨take_fun h id, by simp, by simp, by simp, post_cellF [] rfl rfl (sm_same rfl) rfl rfl⟩
theorem done_fun {n : Net} (h : VN n) (q : Int) (w : PI) : Fun C P F_done [netD n, .i q, prA w] [] (takA (doneN n q w) (0, 0, 0) (doneE n q w)) [] := by
  refine in_done (W := w_done) rfl 0 (by simp) rfl (fun id h => absurd rfl h) ?_
  refine of_eq (done_A n q w 0 _) ?_
  have e0 : toN (netD n) = n := toN_net false false n
  rw [e0]
  refine ⟨by simp, fun h1 => ⟨(by first | omega | decide | (unfold I64; omega)), lose_fun h _, by simp, by simp, ?_⟩, fun h1 => ⟨fun h2 => ⟨(by first | omega | decide | (unfold I64; omega)), double_fun h _, by simp, by simp, ?_⟩, fun h2 => ⟨fun h3 => ⟨(by first | omega | decide | (unfold I64; omega)), (by first | omega | decide | (unfold I64; omega)), sever_fun h _ _, by simp, by simp, ?_⟩, fun h3 => ⟨(by first | omega | decide | (unfold I64; omega)), (by first | omega | decide | (unfold I64; omega)), heal_fun h _ _, by simp, by simp, ?_⟩⟩⟩⟩
  · have h1 := eq_of_beq h1
    unfold doneN doneE
    rw [if_pos h1, if_pos h1]
    exact post_cellF [] rfl rfl (sm_same rfl) rfl rfl
  · have h1 : q ≠ 0 := fun e => by rw [e] at h1; simp at h1
    have h2 := eq_of_beq h2
    unfold doneN doneE
    rw [if_neg h1, if_neg h1, if_pos h2, if_pos h2]
    exact post_cellF [] rfl rfl (sm_same rfl) rfl rfl
  · have h1 : q ≠ 0 := fun e => by rw [e] at h1; simp at h1
    have h2 : q ≠ 1 := fun e => by rw [e] at h2; simp at h2
    have h3 := eq_of_beq h3
    unfold doneN doneE
    rw [if_neg h1, if_neg h1, if_neg h2, if_neg h2, if_pos h3, if_pos h3]
    exact post_cellF [] rfl rfl (sm_same rfl) rfl rfl
  · have h1 : q ≠ 0 := fun e => by rw [e] at h1; simp at h1
    have h2 : q ≠ 1 := fun e => by rw [e] at h2; simp at h2
    have h3 : q ≠ 2 := fun e => by rw [e] at h3; simp at h3
    unfold doneN doneE
    rw [if_neg h1, if_neg h1, if_neg h2, if_neg h2, if_neg h3, if_neg h3]
    exact post_cellF [] rfl rfl (sm_same rfl) rfl rfl
end Go.Bu.W

namespace Go.Bu.W
def w_step : Way := wayZ [0, 1, 2, 3, 4, 5, 6, 17, 18, 27, 36, 45, 54] 66 []
def w_made : Way := wayZ [0, 2, 3, 4, 13] 23 []
abbrev zN : AV := .st [.dat 0 true 0 (fun _ => .v undef), .dat 0 true 0 (fun _ => .v undef), .i 0]
def I_md (ex : Bool) (l : List Tri) (i : Nat) : St := { tm := [(0, dTri ex l), (2, .ptr 2 []), (3, .ptr 3 []), (4, i64 i)], hp := [(2, .c zN), (3, .c (netD (madeI l i)))], seen := [2, 3] }

theorem step_A (n : Net) (x : Tri) (K : Nat) (Φ : Ex → St → Prop) :
  (Holds C P 66 [] K Φ (vc C w_step b_step [] (start [netD n, triA x] []) lf)) =
  ((((0 : Int) ≤ (1 : Int)) ∧ ((1 : Int) < (3 : Int))) ∧
 (((5 : Int) ≠ (0 : Int)) ∧
 ((I64 ((((W.tri x 1) % 5) : Nat) : Int)) ∧
 ((((0 : Int) ≤ (2 : Int)) ∧ ((2 : Int) < (3 : Int))) ∧
 (((5 : Int) ≠ (0 : Int)) ∧
 ((I64 ((((W.tri x 2) % 5) : Nat) : Int)) ∧
 ((((0 : Int) ≤ (0 : Int)) ∧ ((0 : Int) < (3 : Int))) ∧
 (((8 : Int) ≠ (0 : Int)) ∧
 (((((((W.tri x 0) % 8) : Nat) : Int) == (0 : Int)) = true →
 (Fun W.C W.P 14 [(W.netA false false n), (AV.i ((((W.tri x 1) % 5) : Nat) : Int)), (AV.i ((((W.tri x 2) % 5) : Nat) : Int))] [] (AV.st [(W.netA false false (W.sendN (W.toN (W.netA false false n)) ((((W.tri x 1) % 5) : Nat) : Int) ((((W.tri x 2) % 5) : Nat) : Int))), (AV.i (W.sendI (W.toN (W.netA false false n)) ((((W.tri x 1) % 5) : Nat) : Int) ((((W.tri x 2) % 5) : Nat) : Int))), (AV.i (W.sendE (W.toN (W.netA false false n)) ((((W.tri x 1) % 5) : Nat) : Int) ((((W.tri x 2) % 5) : Nat) : Int)))]) [] ∧
  ((W.ShK) ∧
  (Φ Ex.ret (St.mk [(0, (W.netA false false n)), (1, (W.triA x)), (2, (AV.ptr 2 [])), (3, (AV.ptr 3 [])), (4, (AV.ptr 4 [])), (5, (AV.i ((((W.tri x 1) % 5) : Nat) : Int))), (6, (AV.i ((((W.tri x 2) % 5) : Nat) : Int))), (17, (AV.v (Value.int IntKind.u8 ((((W.tri x 0) % 8) : Nat) : Int)))), (18, (AV.v (Value.bool true)))] [(2, (Blk.c (W.netA false false n))), (3, (Blk.c (W.triA x))), (4, (Blk.c (W.netA false false (W.sendN (W.toN (W.netA false false n)) ((((W.tri x 1) % 5) : Nat) : Int) ((((W.tri x 2) % 5) : Nat) : Int)))))] [4, 3, 2]))))) ∧
 ((((((W.tri x 0) % 8) : Nat) : Int) == (0 : Int)) = false →
 (((((((W.tri x 0) % 8) : Nat) : Int) == (1 : Int)) = true →
  (Fun W.C W.P 14 [(W.netA false false n), (AV.i ((((W.tri x 1) % 5) : Nat) : Int)), (AV.i ((((W.tri x 2) % 5) : Nat) : Int))] [] (AV.st [(W.netA false false (W.sendN (W.toN (W.netA false false n)) ((((W.tri x 1) % 5) : Nat) : Int) ((((W.tri x 2) % 5) : Nat) : Int))), (AV.i (W.sendI (W.toN (W.netA false false n)) ((((W.tri x 1) % 5) : Nat) : Int) ((((W.tri x 2) % 5) : Nat) : Int))), (AV.i (W.sendE (W.toN (W.netA false false n)) ((((W.tri x 1) % 5) : Nat) : Int) ((((W.tri x 2) % 5) : Nat) : Int)))]) [] ∧
   ((W.ShK) ∧
   (Φ Ex.ret (St.mk [(0, (W.netA false false n)), (1, (W.triA x)), (2, (AV.ptr 2 [])), (3, (AV.ptr 3 [])), (4, (AV.ptr 4 [])), (5, (AV.i ((((W.tri x 1) % 5) : Nat) : Int))), (6, (AV.i ((((W.tri x 2) % 5) : Nat) : Int))), (17, (AV.v (Value.int IntKind.u8 ((((W.tri x 0) % 8) : Nat) : Int)))), (18, (AV.v (Value.bool true)))] [(2, (Blk.c (W.netA false false n))), (3, (Blk.c (W.triA x))), (4, (Blk.c (W.netA false false (W.sendN (W.toN (W.netA false false n)) ((((W.tri x 1) % 5) : Nat) : Int) ((((W.tri x 2) % 5) : Nat) : Int)))))] [4, 3, 2]))))) ∧
  ((((((W.tri x 0) % 8) : Nat) : Int) == (1 : Int)) = false →
  (((((((W.tri x 0) % 8) : Nat) : Int) == (2 : Int)) = true →
   (Fun W.C W.P 14 [(W.netA false false n), (AV.i ((((W.tri x 1) % 5) : Nat) : Int)), (AV.i ((((W.tri x 2) % 5) : Nat) : Int))] [] (AV.st [(W.netA false false (W.sendN (W.toN (W.netA false false n)) ((((W.tri x 1) % 5) : Nat) : Int) ((((W.tri x 2) % 5) : Nat) : Int))), (AV.i (W.sendI (W.toN (W.netA false false n)) ((((W.tri x 1) % 5) : Nat) : Int) ((((W.tri x 2) % 5) : Nat) : Int))), (AV.i (W.sendE (W.toN (W.netA false false n)) ((((W.tri x 1) % 5) : Nat) : Int) ((((W.tri x 2) % 5) : Nat) : Int)))]) [] ∧
    ((W.ShK) ∧
    (Φ Ex.ret (St.mk [(0, (W.netA false false n)), (1, (W.triA x)), (2, (AV.ptr 2 [])), (3, (AV.ptr 3 [])), (4, (AV.ptr 4 [])), (5, (AV.i ((((W.tri x 1) % 5) : Nat) : Int))), (6, (AV.i ((((W.tri x 2) % 5) : Nat) : Int))), (17, (AV.v (Value.int IntKind.u8 ((((W.tri x 0) % 8) : Nat) : Int)))), (18, (AV.v (Value.bool true)))] [(2, (Blk.c (W.netA false false n))), (3, (Blk.c (W.triA x))), (4, (Blk.c (W.netA false false (W.sendN (W.toN (W.netA false false n)) ((((W.tri x 1) % 5) : Nat) : Int) ((((W.tri x 2) % 5) : Nat) : Int)))))] [4, 3, 2]))))) ∧
   ((((((W.tri x 0) % 8) : Nat) : Int) == (2 : Int)) = false →
   (((((((W.tri x 0) % 8) : Nat) : Int) == (3 : Int)) = true →
    ((((0 : Int) ≤ (1 : Int)) ∧ ((1 : Int) < (3 : Int))) ∧
     (((16 : Int) ≠ (0 : Int)) ∧
     ((I64 ((((W.tri x 1) % 16) : Nat) : Int)) ∧
     (Fun W.C W.P 18 [(W.netA false false n), (AV.i ((((W.tri x 1) % 16) : Nat) : Int))] [] (AV.st [(W.netA false false (W.takeN (W.toN (W.netA false false n)) ((((W.tri x 1) % 16) : Nat) : Int))), (W.pkA (W.takeP (W.toN (W.netA false false n)) ((((W.tri x 1) % 16) : Nat) : Int))), (AV.i (W.takeE (W.toN (W.netA false false n)) ((((W.tri x 1) % 16) : Nat) : Int)))]) [] ∧
     ((W.ShK) ∧
     (Φ Ex.ret (St.mk [(0, (W.netA false false n)), (1, (W.triA x)), (2, (AV.ptr 2 [])), (3, (AV.ptr 3 [])), (4, (AV.ptr 4 [])), (5, (AV.i ((((W.tri x 1) % 5) : Nat) : Int))), (6, (AV.i ((((W.tri x 2) % 5) : Nat) : Int))), (17, (AV.v (Value.int IntKind.u8 ((((W.tri x 0) % 8) : Nat) : Int)))), (18, (AV.v (Value.bool false))), (27, (AV.v (Value.bool true)))] [(2, (Blk.c (W.netA false false n))), (3, (Blk.c (W.triA x))), (4, (Blk.c (W.netA false false (W.takeN (W.toN (W.netA false false n)) ((((W.tri x 1) % 16) : Nat) : Int)))))] [4, 3, 2])))))))) ∧
    ((((((W.tri x 0) % 8) : Nat) : Int) == (3 : Int)) = false →
    (((((((W.tri x 0) % 8) : Nat) : Int) == (4 : Int)) = true →
     ((((0 : Int) ≤ (1 : Int)) ∧ ((1 : Int) < (3 : Int))) ∧
      (((16 : Int) ≠ (0 : Int)) ∧
      ((I64 ((((W.tri x 1) % 16) : Nat) : Int)) ∧
      (Fun W.C W.P 22 [(W.netA false false n), (AV.i ((((W.tri x 1) % 16) : Nat) : Int))] [] (AV.st [(W.netA false false (W.loseN (W.toN (W.netA false false n)) ((((W.tri x 1) % 16) : Nat) : Int))), (AV.st [(AV.i (0 : Int)), (AV.i (0 : Int)), (AV.i (0 : Int))]), (AV.i (W.loseE (W.toN (W.netA false false n)) ((((W.tri x 1) % 16) : Nat) : Int)))]) [] ∧
      ((W.ShK) ∧
      (Φ Ex.ret (St.mk [(0, (W.netA false false n)), (1, (W.triA x)), (2, (AV.ptr 2 [])), (3, (AV.ptr 3 [])), (4, (AV.ptr 4 [])), (5, (AV.i ((((W.tri x 1) % 5) : Nat) : Int))), (6, (AV.i ((((W.tri x 2) % 5) : Nat) : Int))), (17, (AV.v (Value.int IntKind.u8 ((((W.tri x 0) % 8) : Nat) : Int)))), (18, (AV.v (Value.bool false))), (27, (AV.v (Value.bool false))), (36, (AV.v (Value.bool true)))] [(2, (Blk.c (W.netA false false n))), (3, (Blk.c (W.triA x))), (4, (Blk.c (W.netA false false (W.loseN (W.toN (W.netA false false n)) ((((W.tri x 1) % 16) : Nat) : Int)))))] [4, 3, 2])))))))) ∧
     ((((((W.tri x 0) % 8) : Nat) : Int) == (4 : Int)) = false →
     (((((((W.tri x 0) % 8) : Nat) : Int) == (5 : Int)) = true →
      ((((0 : Int) ≤ (1 : Int)) ∧ ((1 : Int) < (3 : Int))) ∧
       (((16 : Int) ≠ (0 : Int)) ∧
       ((I64 ((((W.tri x 1) % 16) : Nat) : Int)) ∧
       (Fun W.C W.P 23 [(W.netA false false n), (AV.i ((((W.tri x 1) % 16) : Nat) : Int))] [] (AV.st [(W.netA false false (W.dblN (W.toN (W.netA false false n)) ((((W.tri x 1) % 16) : Nat) : Int))), (AV.st [(AV.i (0 : Int)), (AV.i (0 : Int)), (AV.i (0 : Int))]), (AV.i (W.dblE (W.toN (W.netA false false n)) ((((W.tri x 1) % 16) : Nat) : Int)))]) [] ∧
       ((W.ShK) ∧
       (Φ Ex.ret (St.mk [(0, (W.netA false false n)), (1, (W.triA x)), (2, (AV.ptr 2 [])), (3, (AV.ptr 3 [])), (4, (AV.ptr 4 [])), (5, (AV.i ((((W.tri x 1) % 5) : Nat) : Int))), (6, (AV.i ((((W.tri x 2) % 5) : Nat) : Int))), (17, (AV.v (Value.int IntKind.u8 ((((W.tri x 0) % 8) : Nat) : Int)))), (18, (AV.v (Value.bool false))), (27, (AV.v (Value.bool false))), (36, (AV.v (Value.bool false))), (45, (AV.v (Value.bool true)))] [(2, (Blk.c (W.netA false false n))), (3, (Blk.c (W.triA x))), (4, (Blk.c (W.netA false false (W.dblN (W.toN (W.netA false false n)) ((((W.tri x 1) % 16) : Nat) : Int)))))] [4, 3, 2])))))))) ∧
      ((((((W.tri x 0) % 8) : Nat) : Int) == (5 : Int)) = false →
      (((((((W.tri x 0) % 8) : Nat) : Int) == (6 : Int)) = true →
       (Fun W.C W.P 24 [(W.netA false false n), (AV.i ((((W.tri x 1) % 5) : Nat) : Int)), (AV.i ((((W.tri x 2) % 5) : Nat) : Int))] [] (AV.st [(W.netA false false (W.sevN (W.toN (W.netA false false n)) ((((W.tri x 1) % 5) : Nat) : Int) ((((W.tri x 2) % 5) : Nat) : Int))), (AV.st [(AV.i (0 : Int)), (AV.i (0 : Int)), (AV.i (0 : Int))]), (AV.i (W.sevE (W.toN (W.netA false false n)) ((((W.tri x 1) % 5) : Nat) : Int) ((((W.tri x 2) % 5) : Nat) : Int)))]) [] ∧
        ((W.ShK) ∧
        (Φ Ex.ret (St.mk [(0, (W.netA false false n)), (1, (W.triA x)), (2, (AV.ptr 2 [])), (3, (AV.ptr 3 [])), (4, (AV.ptr 4 [])), (5, (AV.i ((((W.tri x 1) % 5) : Nat) : Int))), (6, (AV.i ((((W.tri x 2) % 5) : Nat) : Int))), (17, (AV.v (Value.int IntKind.u8 ((((W.tri x 0) % 8) : Nat) : Int)))), (18, (AV.v (Value.bool false))), (27, (AV.v (Value.bool false))), (36, (AV.v (Value.bool false))), (45, (AV.v (Value.bool false))), (54, (AV.v (Value.bool true)))] [(2, (Blk.c (W.netA false false n))), (3, (Blk.c (W.triA x))), (4, (Blk.c (W.netA false false (W.sevN (W.toN (W.netA false false n)) ((((W.tri x 1) % 5) : Nat) : Int) ((((W.tri x 2) % 5) : Nat) : Int)))))] [4, 3, 2]))))) ∧
       ((((((W.tri x 0) % 8) : Nat) : Int) == (6 : Int)) = false →
       (Fun W.C W.P 25 [(W.netA false false n), (AV.i ((((W.tri x 1) % 5) : Nat) : Int)), (AV.i ((((W.tri x 2) % 5) : Nat) : Int))] [] (AV.st [(W.netA false false (W.healN (W.toN (W.netA false false n)) ((((W.tri x 1) % 5) : Nat) : Int) ((((W.tri x 2) % 5) : Nat) : Int))), (AV.st [(AV.i (0 : Int)), (AV.i (0 : Int)), (AV.i (0 : Int))]), (AV.i (W.healE ((((W.tri x 1) % 5) : Nat) : Int) ((((W.tri x 2) % 5) : Nat) : Int)))]) [] ∧
        ((W.ShK) ∧
        (Φ Ex.ret (St.mk [(0, (W.netA false false n)), (1, (W.triA x)), (2, (AV.ptr 2 [])), (3, (AV.ptr 3 [])), (4, (AV.ptr 4 [])), (5, (AV.i ((((W.tri x 1) % 5) : Nat) : Int))), (6, (AV.i ((((W.tri x 2) % 5) : Nat) : Int))), (17, (AV.v (Value.int IntKind.u8 ((((W.tri x 0) % 8) : Nat) : Int)))), (18, (AV.v (Value.bool false))), (27, (AV.v (Value.bool false))), (36, (AV.v (Value.bool false))), (45, (AV.v (Value.bool false))), (54, (AV.v (Value.bool false)))] [(2, (Blk.c (W.netA false false n))), (3, (Blk.c (W.triA x))), (4, (Blk.c (W.netA false false (W.healN (W.toN (W.netA false false n)) ((((W.tri x 1) % 5) : Nat) : Int) ((((W.tri x 2) % 5) : Nat) : Int)))))] [4, 3, 2])))))))))))))))))))))))))) := by kernel_rfl
theorem made_A (ex : Bool) (l : List Tri) (K : Nat) (Φ : Ex → St → Prop) :
  (Holds C P 23 [] K Φ (vc C w_made b_made [] (start [dTri ex l] []) lf)) =
  ((W.ShK) ∧
 (LoopOK W.C W.P 23 [] K (bodyAt b_made [1, 1, 0, 1, 0]) (St.mk [(0, (W.dTri ex l)), (2, (AV.ptr 2 [])), (3, (AV.ptr 3 [])), (4, (AV.i (0 : Int)))] [(2, (Blk.c (AV.st [(AV.dat 0 true 0 (fun (x : Nat) => (AV.v (Value.tuple (List.toArray []))))), (AV.dat 0 true 0 (fun (x : Nat) => (AV.v (Value.tuple (List.toArray []))))), (AV.i (0 : Int))]))), (3, (Blk.c (AV.st [(AV.dat 0 true 0 (fun (x : Nat) => (AV.v (Value.tuple (List.toArray []))))), (AV.dat 0 true 0 (fun (x : Nat) => (AV.v (Value.tuple (List.toArray []))))), (AV.i (1 : Int))])))] [3, 2]) (fun (e : Ex) (S' : St) => Holds W.C W.P 23 [] K Φ (after W.C w_made b_made [1, 1, 0, 1, 0] [] lf e S')))) := by kernel_rfl
noncomputable abbrev bd_made_0 : Code := bodyAt (b_made) [1, 1, 0, 1, 0]
theorem ok_made_0 : codeOK bd_made_0 = true := by kernel_rfl
noncomputable abbrev rest_made_0 (K : Nat) (Φ : Ex → St → Prop) : Ex → St → Prop := fun e S' => Holds C P 23 [] K Φ (after C w_made (b_made) [1, 1, 0, 1, 0] [] lf e S')
theorem made_L0 (ex : Bool) (l : List Tri) (i : Nat) (K : Nat) (Φ : Ex → St → Prop) :
  (Holds C P 23 [] K (RoundQ C 23 [] K (I_md ex l) (fun i => i ≤ l.length ∧ i ≤ 20) (fun i => 20 - i) ((fun i => 20 - i) (i)) (rest_made_0 K Φ)) (vc C w_made bd_made_0 [] ((I_md ex l) (i)) lf)) =
  (((decide (((i : Nat) : Int) < (((List.length l) : Nat) : Int))) = true →
 (((decide (((i : Nat) : Int) < (20 : Int))) = true →
  ((((0 : Int) ≤ ((i : Nat) : Int)) ∧ (((i : Nat) : Int) < (((List.length l) : Nat) : Int))) ∧
   (Fun W.C W.P 28 [(W.netA false false (W.madeI l i)), (W.triA (W.tAt l i))] [] (W.netA false false (W.stepN (W.toN (W.netA false false (W.madeI l i))) ((Int.toNat (((W.tri (W.tAt l i) 0) : Nat) : Int)), ((Int.toNat (((W.tri (W.tAt l i) 1) : Nat) : Int)), (Int.toNat (((W.tri (W.tAt l i) 2) : Nat) : Int)))))) [] ∧
   ((W.ShK) ∧
   ((I64 (((i + 1) : Nat) : Int)) ∧
   ((RoundQ C 23 [] K (I_md ex l) (fun i => i ≤ l.length ∧ i ≤ 20) (fun i => 20 - i) ((fun i => 20 - i) (i)) (rest_made_0 K Φ)) Ex.normal (St.mk [(0, (W.dTri ex l)), (2, (AV.ptr 2 [])), (3, (AV.ptr 3 [])), (4, (AV.i (((i + 1) : Nat) : Int))), (13, (AV.v (Value.bool true)))] [(2, (Blk.c (AV.st [(AV.dat 0 true 0 (fun (x : Nat) => (AV.v (Value.tuple (List.toArray []))))), (AV.dat 0 true 0 (fun (x : Nat) => (AV.v (Value.tuple (List.toArray []))))), (AV.i (0 : Int))]))), (3, (Blk.c (W.netA false false (W.stepN (W.toN (W.netA false false (W.madeI l i))) ((Int.toNat (((W.tri (W.tAt l i) 0) : Nat) : Int)), ((Int.toNat (((W.tri (W.tAt l i) 1) : Nat) : Int)), (Int.toNat (((W.tri (W.tAt l i) 2) : Nat) : Int))))))))] [2, 3]))))))) ∧
  ((decide (((i : Nat) : Int) < (20 : Int))) = false →
  ((W.ShK) ∧
   (Φ Ex.ret (St.mk [(0, (W.dTri ex l)), (2, (AV.ptr 2 [])), (3, (AV.ptr 3 [])), (4, (AV.i ((i : Nat) : Int))), (13, (AV.v (Value.bool false)))] [(2, (Blk.c (W.netA false false (W.madeI l i)))), (3, (Blk.c (W.netA false false (W.madeI l i))))] [2, 3])))))) ∧
 ((decide (((i : Nat) : Int) < (((List.length l) : Nat) : Int))) = false →
 ((W.ShK) ∧
  (Φ Ex.ret (St.mk [(0, (W.dTri ex l)), (2, (AV.ptr 2 [])), (3, (AV.ptr 3 [])), (4, (AV.i ((i : Nat) : Int))), (13, (AV.v (Value.bool false)))] [(2, (Blk.c (W.netA false false (W.madeI l i)))), (3, (Blk.c (W.netA false false (W.madeI l i))))] [2, 3]))))) := by kernel_rfl
theorem step_fun {n : Net} (h : VN n) (x : Tri) : Fun C P F_step [netD n, triA x] [] (netD (stepN n x)) [] := by
  refine in_step (W := w_step) rfl 0 (by simp) rfl (fun id h => absurd rfl h) ?_
  refine of_eq (step_A n x 0 _) ?_
  have e0 : toN (netD n) = n := toN_net false false n
  rw [e0]
  have t0 : tri x 0 = x.1 := rfl
  have t1 : tri x 1 = x.2.1 := rfl
  have t2 : tri x 2 = x.2.2 := rfl
  rw [t0, t1, t2]
  have en : ∀ k : Nat, (((x.1 % 8 : Nat) : Int) == (k : Int)) = decide (x.1 % 8 = k) := fun k => by
    rw [beq_dec]; exact decide_eq_decide.2 (by omega)
  have en0 : (((x.1 % 8 : Nat) : Int) == 0) = decide (x.1 % 8 = 0) := en 0
  have en1 : (((x.1 % 8 : Nat) : Int) == 1) = decide (x.1 % 8 = 1) := en 1
  have en2 : (((x.1 % 8 : Nat) : Int) == 2) = decide (x.1 % 8 = 2) := en 2
  have en3 : (((x.1 % 8 : Nat) : Int) == 3) = decide (x.1 % 8 = 3) := en 3
  have en4 : (((x.1 % 8 : Nat) : Int) == 4) = decide (x.1 % 8 = 4) := en 4
  have en5 : (((x.1 % 8 : Nat) : Int) == 5) = decide (x.1 % 8 = 5) := en 5
  have en6 : (((x.1 % 8 : Nat) : Int) == 6) = decide (x.1 % 8 = 6) := en 6
  refine ⟨(by first | omega | decide | (unfold I64; omega)), (by first | omega | decide | (unfold I64; omega)), (by first | omega | decide | (unfold I64; omega)), (by first | omega | decide | (unfold I64; omega)), (by first | omega | decide | (unfold I64; omega)), (by first | omega | decide | (unfold I64; omega)), (by first | omega | decide | (unfold I64; omega)), (by first | omega | decide | (unfold I64; omega)), ?_⟩
  rw [en0, en1, en2, en3, en4, en5, en6]
  unfold stepN
  refine ⟨fun h0 => ?_, fun h0 => ⟨fun h1 => ?_, fun h1 => ⟨fun h2 => ?_, fun h2 => ⟨fun h3 => ?_, fun h3 => ⟨fun h4 => ?_, fun h4 => ⟨fun h5 => ?_, fun h5 => ⟨fun h6 => ?_, fun h6 => ?_⟩⟩⟩⟩⟩⟩⟩
  · have h0 := of_decide_eq_true h0
    rw [if_pos (by omega)]
    exact ⟨rsend_fun h _ _, by simp, post_cellF [] rfl rfl (sm_same rfl) rfl rfl⟩
  · have h1 := of_decide_eq_true h1
    rw [if_pos (by omega)]
    exact ⟨rsend_fun h _ _, by simp, post_cellF [] rfl rfl (sm_same rfl) rfl rfl⟩
  · have h2 := of_decide_eq_true h2
    rw [if_pos (by omega)]
    exact ⟨rsend_fun h _ _, by simp, post_cellF [] rfl rfl (sm_same rfl) rfl rfl⟩
  · have h3 := of_decide_eq_true h3
    rw [if_neg (by omega), if_pos h3]
    exact ⟨(by first | omega | decide | (unfold I64; omega)), (by first | omega | decide | (unfold I64; omega)), (by first | omega | decide | (unfold I64; omega)), rtake_fun h _, by simp, post_cellF [] rfl rfl (sm_same rfl) rfl rfl⟩
  · have h4 := of_decide_eq_true h4
    rw [if_neg (by omega), if_neg (by omega), if_pos h4]
    exact ⟨(by first | omega | decide | (unfold I64; omega)), (by first | omega | decide | (unfold I64; omega)), (by first | omega | decide | (unfold I64; omega)), rlose_fun h _, by simp, post_cellF [] rfl rfl (sm_same rfl) rfl rfl⟩
  · have h5 := of_decide_eq_true h5
    rw [if_neg (by omega), if_neg (by omega), if_neg (by omega), if_pos h5]
    exact ⟨(by first | omega | decide | (unfold I64; omega)), (by first | omega | decide | (unfold I64; omega)), (by first | omega | decide | (unfold I64; omega)), rdouble_fun h _, by simp, post_cellF [] rfl rfl (sm_same rfl) rfl rfl⟩
  · have h6 := of_decide_eq_true h6
    rw [if_neg (by omega), if_neg (by omega), if_neg (by omega), if_neg (by omega), if_pos h6]
    exact ⟨rsever_fun h _ _, by simp, post_cellF [] rfl rfl (sm_same rfl) rfl rfl⟩
  · have h0 := of_decide_eq_false h0
    have h1 := of_decide_eq_false h1
    have h2 := of_decide_eq_false h2
    have h3 := of_decide_eq_false h3
    have h4 := of_decide_eq_false h4
    have h5 := of_decide_eq_false h5
    have h6 := of_decide_eq_false h6
    rw [if_neg (by omega), if_neg h3, if_neg h4, if_neg h5, if_neg h6]
    exact ⟨rheal_fun h _ _, by simp, post_cellF [] rfl rfl (sm_same rfl) rfl rfl⟩
theorem toTri_A (p : Tri) : toTri (triA p) = p := by
  obtain ⟨a, b, c⟩ := p
  show ((a : Int).toNat, (b : Int).toNat, (c : Int).toNat) = _
  simp
theorem toTL_A (l : List Tri) : toTL l.length (fun i => triA (tAt l i)) = l := by
  unfold toTL
  refine List.ext_getElem (by simp) fun i h1 h2 => ?_
  simp only [List.getElem_map, List.getElem_range]
  rw [toTri_A]
  show l.getD i (0, 0, 0) = _
  rw [List.getD_eq_getElem?_getD, List.getElem?_eq_getElem h2]; rfl
theorem madeI_succ {l : List Tri} {i : Nat} (h : i < l.length) : madeI l (i + 1) = stepN (madeI l i) (tAt l i) := by
  unfold madeI
  rw [take_step (d := (0, 0, 0)) h, List.foldl_append]; rfl
theorem made_fun (ex : Bool) (l : List Tri) : Fun C P F_made [dTri ex l] [] (netD (madeN l)) [] := by
  refine in_made (W := w_made) rfl 0 (by simp) rfl (fun id h => absurd rfl h) ?_
  refine of_eq (made_A ex l 0 _) ⟨by simp, ?_⟩
  refine loop_inv (W := w_made) ctx mixed ok_made_0 (I_md ex l) (fun i => i ≤ l.length ∧ i ≤ 20) (fun i => 20 - i) 0 ⟨Nat.zero_le _, Nat.zero_le _⟩ ?_ fun i hi => ?_
  · refine ent_of [(2, 2), (3, 3)] rfl (tm_cons rfl (sm_same rfl) (tm_cons rfl (sm_ptr rfl) (tm_cons rfl (sm_ptr rfl) (tm_cons rfl (sm_same rfl) tm_nil)))) (hp_cons rfl rfl (sm_st ⟨sm_dat' rfl (by simp) (fun i hi => absurd hi (Nat.not_lt_zero i)), sm_dat' rfl (by simp) (fun i hi => absurd hi (Nat.not_lt_zero i)), sm_int rfl, trivial⟩) (hp_cons rfl rfl (sm_st ⟨.inr ⟨rfl, by simp, .inl rfl, fun i hi => absurd hi (Nat.not_lt_zero i)⟩, .inr ⟨rfl, by simp, .inl rfl, fun i hi => absurd hi (Nat.not_lt_zero i)⟩, sm_int rfl, trivial⟩) hp_nil))
  obtain ⟨hi, h20⟩ := hi
  have hv := VN.made l i
  refine of_eq (made_L0 ex l i 0 _) ?_
  have e0 : toN (netD (madeI l i)) = madeI l i := toN_net false false _
  have e1 : ((((tri (tAt l i) 0 : Nat) : Int).toNat, ((tri (tAt l i) 1 : Nat) : Int).toNat, ((tri (tAt l i) 2 : Nat) : Int).toNat) : Tri) = tAt l i := toTri_A _
  have fin : (i = l.length ∨ i = 20) → madeN l = madeI l i := fun h => by
    unfold madeN madeI
    rcases h with h | h
    · rw [h, List.take_length, List.take_of_length_le (by omega)]
    · rw [h]
  refine ⟨fun h1 => ⟨fun h2 => ?_, fun h2 => ?_⟩, fun h1 => ?_⟩
  · have h1 := of_decide_eq_true h1
    have h2 := of_decide_eq_true h2
    have es := madeI_succ (l := l) (i := i) (by omega)
    rw [e0, e1, ← es]
    refine ⟨(by first | omega | decide | (unfold I64; omega)), by rw [es]; exact step_fun hv _, by simp, (by first | omega | decide | (unfold I64; omega)), round_end (i + 1) ⟨by omega, by omega⟩ (ent_of [(2, 2), (3, 3)] rfl (tm_cons rfl (sm_same rfl) (tm_cons rfl (sm_ptr rfl) (tm_cons rfl (sm_ptr rfl) (tm_cons rfl (sm_same rfl) tm_nil)))) (hp_cons rfl rfl (sm_same rfl) (hp_cons rfl rfl (sm_same rfl) hp_nil))) (by dsimp only; omega)⟩
  · have h2 := of_decide_eq_false h2
    rw [fin (.inr (by omega))]
    exact ⟨by simp, post_cellF [] rfl rfl (sm_same rfl) rfl rfl⟩
  · have h1 := of_decide_eq_false h1
    rw [fin (.inl (by omega))]
    exact ⟨by simp, post_cellF [] rfl rfl (sm_same rfl) rfl rfl⟩
end Go.Bu.W

