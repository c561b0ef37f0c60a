/- NetOnce. -/
import Derived.Test.YtjfggjlbnmdceaaKNQ
namespace Go.Bu.W
def wayLo (keep : List Nat) (nt : Nat) (cuts : List Nat) : Way := ⟨crN9, byrefI, keep, [], nt, cuts⟩
def w_nlo : Way := wayLo [0, 1, 4, 5, 6, 7, 8, 9, 10, 11, 12, 13, 14, 15, 26, 49, 59, 68, 81, 87, 142] 163 [3,8,20,21]
abbrev NN : Type := Nat × Nat
abbrev twA (p : NN) : AV := .arr 2 1 (fun j => u8 (two p.1 p.2 j))
abbrev wAt (l : List NN) (i : Nat) : NN := l.getD i (0, 0)
abbrev dTw (ex : Bool) (l : List NN) : AV := .dat l.length ex 2 (fun i => twA (wAt l i))
abbrev dB (ex : Bool) (b : List Nat) : AV := .dat b.length ex 1 (rowL b)
def S_lo3 (ex : Bool) (l : List NN) (ey : Bool) (b : List Nat) (m : Net) : St := { tm := [(0, dTw ex l), (1, dB ey b), (5, .sb true), (6, .ptr 6 []), (7, .sl 78 [] 0 m.fly.length m.fly.length false 3)], hp := [(6, .c (netD m)), (78, .c (.arr m.fly.length 3 (fun k => pkA (kAt m.fly k))))], seen := [6, 78] }
def I_lo0 (ex : Bool) (l : List NN) (ey : Bool) (b : List Nat) (s : Net × Nat) : St := { tm := [(0, dTw ex l), (1, dB ey b), (5, .sb true), (6, .ptr 6 []), (7, .sl 78 [] 0 s.1.fly.length s.1.fly.length false 3), (8, i64 s.2)], hp := [(6, .c (netD s.1)), (78, .c (.arr s.1.fly.length 3 (fun k => pkA (kAt s.1.fly k))))], seen := [6, 78] }
def S_lo8 (ex : Bool) (l : List NN) (ey : Bool) (b : List Nat) (m : Net) (i : Nat) (p q : Nat) (a : Net × Int × Int) : St := { tm := [(0, dTw ex l), (1, dB ey b), (5, .sb true), (6, .ptr 6 []), (7, .sl 78 [] 0 m.fly.length m.fly.length false 3), (8, i64 i), (9, i64 p), (10, i64 q), (11, .ptr 11 [])], hp := [(6, .c (netD m)), (11, .c (sS a)), (78, .c (.arr m.fly.length 3 (fun k => pkA (kAt m.fly k))))], seen := [6, 11, 78] }
def I_lo1 (ey : Bool) (b : List Nat) (s : Net × Nat) : St := { tm := [(1, dB ey b), (5, .sb true), (6, .ptr 6 []), (7, .sl 155 [] 0 s.1.fly.length s.1.fly.length false 3), (12, i64 s.2)], hp := [(6, .c (netD s.1)), (155, .c (.arr s.1.fly.length 3 (fun k => pkA (kAt s.1.fly k))))], seen := [6, 155] }
def S_lo20 (ey : Bool) (b : List Nat) (m : Net) (i k : Nat) : St := { tm := [(1, dB ey b), (5, .sb true), (6, .ptr 6 []), (7, .sl 155 [] 0 m.fly.length m.fly.length false 3), (12, i64 i), (13, i64 k)], hp := [(6, .c (netD m)), (155, .c (.arr m.fly.length 3 (fun k => pkA (kAt m.fly k))))], seen := [6, 155] }
def S_lo21 (ey : Bool) (b : List Nat) (m : Net) (i k : Nat) (t : Net × Pk × Int) : St := { tm := [(1, dB ey b), (5, .sb true), (6, .ptr 6 []), (7, .sl 155 [] 0 m.fly.length m.fly.length false 3), (12, i64 i), (13, i64 k), (14, .ptr 14 [])], hp := [(6, .c (netD m)), (14, .c (sT t)), (155, .c (.arr m.fly.length 3 (fun k => pkA (kAt m.fly k))))], seen := [6, 14, 155] }

theorem nlo_A (ex : Bool) (l : List NN) (ey : Bool) (b : List Nat) (K : Nat) (Φ : Ex → St → Prop) :
  (Holds C P 163 [] K Φ (vc C w_nlo b_nlo [] (start [dTw ex l, dB ey b] []) lf)) =
  (Fun W.C W.P 11 [] [] (AV.sb true) [] ∧
 (True ∧
 ((W.ShK) ∧
 (∃ (S2 : St), Ent W.C 163 [] K (St.mk [(0, (AV.dat (List.length l) ex 2 (fun (i : Nat) => (AV.arr 2 1 (fun (j : Nat) => (AV.v (Value.int IntKind.u8 (((W.two (Prod.fst (W.wAt l i)) (Prod.snd (W.wAt l i)) j) : Nat) : Int)))))))), (1, (AV.dat (List.length b) ey 1 (rowL b))), (4, (AV.v (Value.bool false))), (5, (AV.sb true)), (6, (AV.ptr 6 [])), (7, (AV.sl 18 [] 0 0 0 true 3))] [(6, (Blk.c (AV.st [(AV.dat 0 true 0 (fun (x : Nat) => (AV.v (Value.tuple (List.toArray []))))), (AV.dat 0 true 0 (fun (x : Nat) => (AV.v (Value.tuple (List.toArray []))))), (AV.i (1 : Int))]))), (18, (Blk.c (AV.st [])))] [6, 18]) S2 ∧ Holds W.C W.P 163 [] K Φ (cutAt W.C w_nlo b_nlo [1, 1, 1, 0, 0] S2 (after W.C w_nlo b_nlo [1, 1, 1, 0, 0] [] lf)))))) := by kernel_rfl
theorem nlo_C3 (ex : Bool) (l : List NN) (ey : Bool) (b : List Nat) (m : Net) (K : Nat) (Φ : Ex → St → Prop) :
  (Holds C P 163 [] K Φ (cutAt C w_nlo b_nlo [1, 1, 1, 0, 0] (S_lo3 ex l ey b m) (after C w_nlo b_nlo [1, 1, 1, 0, 0] [] lf))) =
  (LoopOK W.C W.P 163 [] K (bodyAt b_nlo [1, 1, 1, 0, 1, 0]) (St.mk [(0, (AV.dat (List.length l) ex 2 (fun (i : Nat) => (AV.arr 2 1 (fun (j : Nat) => (AV.v (Value.int IntKind.u8 (((W.two (Prod.fst (W.wAt l i)) (Prod.snd (W.wAt l i)) j) : Nat) : Int)))))))), (1, (AV.dat (List.length b) ey 1 (rowL b))), (5, (AV.sb true)), (6, (AV.ptr 6 [])), (7, (AV.sl 78 [] 0 (List.length (W.Net.fly m)) (List.length (W.Net.fly m)) false 3)), (8, (AV.i (0 : Int)))] [(6, (Blk.c (W.netA false false m))), (78, (Blk.c (AV.arr (List.length (W.Net.fly m)) 3 (fun (k : Nat) => (W.pkA (W.kAt (W.Net.fly m) k))))))] [6, 78]) (fun (e : Ex) (S' : St) => Holds W.C W.P 163 [] K Φ (after W.C w_nlo b_nlo [1, 1, 1, 0, 1, 0] [] lf e S'))) := by kernel_rfl
noncomputable abbrev bd_nlo_0 : Code := bodyAt (b_nlo) [1, 1, 1, 0, 1, 0]
theorem ok_nlo_0 : codeOK bd_nlo_0 = true := by kernel_rfl
noncomputable abbrev rest_nlo_0 (K : Nat) (Φ : Ex → St → Prop) : Ex → St → Prop := fun e S' => Holds C P 163 [] K Φ (after C w_nlo (b_nlo) [1, 1, 1, 0, 1, 0] [] lf e S')
theorem nlo_L0 (ex : Bool) (l : List NN) (ey : Bool) (b : List Nat) (s : Net × Nat) (K : Nat) (Φ : Ex → St → Prop) :
  (Holds C P 163 [] K (RoundQ C 163 [] K (I_lo0 ex l ey b) (fun s => VN s.1 ∧ s.1.cuts = [] ∧ s.1.fly.length ≤ s.2 ∧ s.1.next = 1 + s.1.fly.length ∧ s.2 ≤ l.length ∧ s.2 ≤ 12) (fun s => 12 - s.2) ((fun s => 12 - s.2) (s)) (rest_nlo_0 K Φ)) (vc C w_nlo bd_nlo_0 [] ((I_lo0 ex l ey b) (s)) lf)) =
  (((decide ((((Prod.snd s) : Nat) : Int) < (((List.length l) : Nat) : Int))) = true →
 (((decide ((((Prod.snd s) : Nat) : Int) < (12 : Int))) = true →
  ((((0 : Int) ≤ (((Prod.snd s) : Nat) : Int)) ∧ ((((Prod.snd s) : Nat) : Int) < (((List.length l) : Nat) : Int))) ∧
   ((((0 : Int) ≤ (0 : Int)) ∧ ((0 : Int) < (2 : Int))) ∧
   (((6 : Int) ≠ (0 : Int)) ∧
   ((I64 ((((W.two (Prod.fst (W.wAt l (Prod.snd s))) (Prod.snd (W.wAt l (Prod.snd s))) 0) % 6) : Nat) : Int)) ∧
   ((((0 : Int) ≤ (((Prod.snd s) : Nat) : Int)) ∧ ((((Prod.snd s) : Nat) : Int) < (((List.length l) : Nat) : Int))) ∧
   ((((0 : Int) ≤ (1 : Int)) ∧ ((1 : Int) < (2 : Int))) ∧
   (((6 : Int) ≠ (0 : Int)) ∧
   ((I64 ((((W.two (Prod.fst (W.wAt l (Prod.snd s))) (Prod.snd (W.wAt l (Prod.snd s))) 1) % 6) : Nat) : Int)) ∧
   (Fun W.C W.P 13 [(W.netA false false (Prod.fst s)), (AV.i ((((W.two (Prod.fst (W.wAt l (Prod.snd s))) (Prod.snd (W.wAt l (Prod.snd s))) 0) % 6) : Nat) : Int)), (AV.i ((((W.two (Prod.fst (W.wAt l (Prod.snd s))) (Prod.snd (W.wAt l (Prod.snd s))) 1) % 6) : Nat) : Int))] [] (AV.st [(W.netA false false (W.sendN (W.toN (W.netA false false (Prod.fst s))) ((((W.two (Prod.fst (W.wAt l (Prod.snd s))) (Prod.snd (W.wAt l (Prod.snd s))) 0) % 6) : Nat) : Int) ((((W.two (Prod.fst (W.wAt l (Prod.snd s))) (Prod.snd (W.wAt l (Prod.snd s))) 1) % 6) : Nat) : Int))), (AV.i (W.sendI (W.toN (W.netA false false (Prod.fst s))) ((((W.two (Prod.fst (W.wAt l (Prod.snd s))) (Prod.snd (W.wAt l (Prod.snd s))) 0) % 6) : Nat) : Int) ((((W.two (Prod.fst (W.wAt l (Prod.snd s))) (Prod.snd (W.wAt l (Prod.snd s))) 1) % 6) : Nat) : Int))), (AV.i (W.sendE (W.toN (W.netA false false (Prod.fst s))) ((((W.two (Prod.fst (W.wAt l (Prod.snd s))) (Prod.snd (W.wAt l (Prod.snd s))) 0) % 6) : Nat) : Int) ((((W.two (Prod.fst (W.wAt l (Prod.snd s))) (Prod.snd (W.wAt l (Prod.snd s))) 1) % 6) : Nat) : Int)))]) [] ∧
   (((W.ShK) ∧ (((true = true) ∧ (true = true)) ∧ (((true = true) ∧ (true = true)) ∧ True))) ∧
   (∃ (S2 : St), Ent W.C 163 [] K (St.mk [(0, (AV.dat (List.length l) ex 2 (fun (i : Nat) => (AV.arr 2 1 (fun (j : Nat) => (AV.v (Value.int IntKind.u8 (((W.two (Prod.fst (W.wAt l i)) (Prod.snd (W.wAt l i)) j) : Nat) : Int)))))))), (1, (AV.dat (List.length b) ey 1 (rowL b))), (5, (AV.sb true)), (6, (AV.ptr 6 [])), (7, (AV.sl 78 [] 0 (List.length (W.Net.fly (Prod.fst s))) (List.length (W.Net.fly (Prod.fst s))) false 3)), (8, (AV.i (((Prod.snd s) : Nat) : Int))), (9, (AV.i ((((W.two (Prod.fst (W.wAt l (Prod.snd s))) (Prod.snd (W.wAt l (Prod.snd s))) 0) % 6) : Nat) : Int))), (10, (AV.i ((((W.two (Prod.fst (W.wAt l (Prod.snd s))) (Prod.snd (W.wAt l (Prod.snd s))) 1) % 6) : Nat) : Int))), (11, (AV.ptr 11 [])), (26, (AV.v (Value.bool true)))] [(6, (Blk.c (W.netA false false (Prod.fst s)))), (11, (Blk.c (AV.st [(W.netA false false (W.sendN (W.toN (W.netA false false (Prod.fst s))) ((((W.two (Prod.fst (W.wAt l (Prod.snd s))) (Prod.snd (W.wAt l (Prod.snd s))) 0) % 6) : Nat) : Int) ((((W.two (Prod.fst (W.wAt l (Prod.snd s))) (Prod.snd (W.wAt l (Prod.snd s))) 1) % 6) : Nat) : Int))), (AV.i (W.sendI (W.toN (W.netA false false (Prod.fst s))) ((((W.two (Prod.fst (W.wAt l (Prod.snd s))) (Prod.snd (W.wAt l (Prod.snd s))) 0) % 6) : Nat) : Int) ((((W.two (Prod.fst (W.wAt l (Prod.snd s))) (Prod.snd (W.wAt l (Prod.snd s))) 1) % 6) : Nat) : Int))), (AV.i (W.sendE (W.toN (W.netA false false (Prod.fst s))) ((((W.two (Prod.fst (W.wAt l (Prod.snd s))) (Prod.snd (W.wAt l (Prod.snd s))) 0) % 6) : Nat) : Int) ((((W.two (Prod.fst (W.wAt l (Prod.snd s))) (Prod.snd (W.wAt l (Prod.snd s))) 1) % 6) : Nat) : Int)))]))), (78, (Blk.c (AV.arr (List.length (W.Net.fly (Prod.fst s))) 3 (fun (k : Nat) => (W.pkA (W.kAt (W.Net.fly (Prod.fst s)) k))))))] [11, 6, 78]) S2 ∧ Holds W.C W.P 163 [] K (RoundQ C 163 [] K (I_lo0 ex l ey b) (fun s => VN s.1 ∧ s.1.cuts = [] ∧ s.1.fly.length ≤ s.2 ∧ s.1.next = 1 + s.1.fly.length ∧ s.2 ≤ l.length ∧ s.2 ≤ 12) (fun s => 12 - s.2) ((fun s => 12 - s.2) (s)) (rest_nlo_0 K Φ)) (cutAt W.C w_nlo bd_nlo_0 [1, 0, 0, 1, 1, 0, 0] S2 (after W.C w_nlo bd_nlo_0 [1, 0, 0, 1, 1, 0, 0] [] lf)))))))))))))) ∧
  ((decide ((((Prod.snd s) : Nat) : Int) < (12 : Int))) = false →
  (LoopOK W.C W.P 163 [] K (bodyAt b_nlo [1, 1, 1, 1, 0, 1, 0]) (St.mk [(0, (AV.dat (List.length l) ex 2 (fun (i : Nat) => (AV.arr 2 1 (fun (j : Nat) => (AV.v (Value.int IntKind.u8 (((W.two (Prod.fst (W.wAt l i)) (Prod.snd (W.wAt l i)) j) : Nat) : Int)))))))), (1, (AV.dat (List.length b) ey 1 (rowL b))), (5, (AV.sb true)), (6, (AV.ptr 6 [])), (7, (AV.sl 78 [] 0 (List.length (W.Net.fly (Prod.fst s))) (List.length (W.Net.fly (Prod.fst s))) false 3)), (8, (AV.i (((Prod.snd s) : Nat) : Int))), (12, (AV.i (0 : Int))), (26, (AV.v (Value.bool false)))] [(6, (Blk.c (W.netA false false (Prod.fst s)))), (78, (Blk.c (AV.arr (List.length (W.Net.fly (Prod.fst s))) 3 (fun (k : Nat) => (W.pkA (W.kAt (W.Net.fly (Prod.fst s)) k))))))] [6, 78]) (fun (e : Ex) (S' : St) => Holds W.C W.P 163 [] K Φ (after W.C w_nlo b_nlo [1, 1, 1, 1, 0, 1, 0] [] lf e S')))))) ∧
 ((decide ((((Prod.snd s) : Nat) : Int) < (((List.length l) : Nat) : Int))) = false →
 (LoopOK W.C W.P 163 [] K (bodyAt b_nlo [1, 1, 1, 1, 0, 1, 0]) (St.mk [(0, (AV.dat (List.length l) ex 2 (fun (i : Nat) => (AV.arr 2 1 (fun (j : Nat) => (AV.v (Value.int IntKind.u8 (((W.two (Prod.fst (W.wAt l i)) (Prod.snd (W.wAt l i)) j) : Nat) : Int)))))))), (1, (AV.dat (List.length b) ey 1 (rowL b))), (5, (AV.sb true)), (6, (AV.ptr 6 [])), (7, (AV.sl 78 [] 0 (List.length (W.Net.fly (Prod.fst s))) (List.length (W.Net.fly (Prod.fst s))) false 3)), (8, (AV.i (((Prod.snd s) : Nat) : Int))), (12, (AV.i (0 : Int))), (26, (AV.v (Value.bool false)))] [(6, (Blk.c (W.netA false false (Prod.fst s)))), (78, (Blk.c (AV.arr (List.length (W.Net.fly (Prod.fst s))) 3 (fun (k : Nat) => (W.pkA (W.kAt (W.Net.fly (Prod.fst s)) k))))))] [6, 78]) (fun (e : Ex) (S' : St) => Holds W.C W.P 163 [] K Φ (after W.C w_nlo b_nlo [1, 1, 1, 1, 0, 1, 0] [] lf e S'))))) := by kernel_rfl
theorem nlo_C8 (ex : Bool) (l : List NN) (ey : Bool) (b : List Nat) (m : Net) (i : Nat) (p q : Nat) (a : Net × Int × Int) (K : Nat) (Φ : Ex → St → Prop) :
  (Holds C P 163 [] K Φ (cutAt C w_nlo bd_nlo_0 [1, 0, 0, 1, 1, 0, 0] (S_lo8 ex l ey b m i p q a) (after C w_nlo bd_nlo_0 [1, 0, 0, 1, 1, 0, 0] [] lf))) =
  (((((p : Nat) : Int) == ((q : Nat) : Int)) = true →
 ((((Prod.snd (Prod.snd a)) != (1 : Int)) = true →
  (Φ Ex.ret (St.mk [(0, (AV.dat (List.length l) ex 2 (fun (i1 : Nat) => (AV.arr 2 1 (fun (j : Nat) => (AV.v (Value.int IntKind.u8 (((W.two (Prod.fst (W.wAt l i1)) (Prod.snd (W.wAt l i1)) j) : Nat) : Int)))))))), (1, (AV.dat (List.length b) ey 1 (rowL b))), (4, (AV.v (Value.bool false))), (5, (AV.sb true)), (6, (AV.ptr 6 [])), (7, (AV.sl 78 [] 0 (List.length (W.Net.fly m)) (List.length (W.Net.fly m)) false 3)), (8, (AV.i ((i : Nat) : Int))), (9, (AV.i ((p : Nat) : Int))), (10, (AV.i ((q : Nat) : Int))), (11, (AV.ptr 11 [])), (49, (AV.v (Value.bool true))), (59, (AV.v (Value.bool true)))] [(6, (Blk.c (W.netA false false m))), (11, (Blk.c (AV.st [(W.netA false false (Prod.fst a)), (AV.i (Prod.fst (Prod.snd a))), (AV.i (Prod.snd (Prod.snd a)))]))), (78, (Blk.c (AV.arr (List.length (W.Net.fly m)) 3 (fun (k : Nat) => (W.pkA (W.kAt (W.Net.fly m) k))))))] [6, 11, 78]))) ∧
  (((Prod.snd (Prod.snd a)) != (1 : Int)) = false →
  (Fun W.C W.P 15 [(W.netA false false (Prod.fst a)), (W.netA false false m)] [] (AV.sb (W.sameB (W.toN (W.netA false false (Prod.fst a))) (W.toN (W.netA false false m)))) [] ∧
   (True ∧
   (((! (W.sameB (W.toN (W.netA false false (Prod.fst a))) (W.toN (W.netA false false m)))) = true →
   (Φ Ex.ret (St.mk [(0, (AV.dat (List.length l) ex 2 (fun (i1 : Nat) => (AV.arr 2 1 (fun (j : Nat) => (AV.v (Value.int IntKind.u8 (((W.two (Prod.fst (W.wAt l i1)) (Prod.snd (W.wAt l i1)) j) : Nat) : Int)))))))), (1, (AV.dat (List.length b) ey 1 (rowL b))), (4, (AV.v (Value.bool false))), (5, (AV.sb true)), (6, (AV.ptr 6 [])), (7, (AV.sl 78 [] 0 (List.length (W.Net.fly m)) (List.length (W.Net.fly m)) false 3)), (8, (AV.i ((i : Nat) : Int))), (9, (AV.i ((p : Nat) : Int))), (10, (AV.i ((q : Nat) : Int))), (11, (AV.ptr 11 [])), (49, (AV.v (Value.bool true))), (59, (AV.v (Value.bool true)))] [(6, (Blk.c (W.netA false false m))), (11, (Blk.c (AV.st [(W.netA false false (Prod.fst a)), (AV.i (Prod.fst (Prod.snd a))), (AV.i (Prod.snd (Prod.snd a)))]))), (78, (Blk.c (AV.arr (List.length (W.Net.fly m)) 3 (fun (k : Nat) => (W.pkA (W.kAt (W.Net.fly m) k))))))] [6, 11, 78]))) ∧
   ((! (W.sameB (W.toN (W.netA false false (Prod.fst a))) (W.toN (W.netA false false m)))) = false →
   ((I64 (((i + 1) : Nat) : Int)) ∧
    (Φ Ex.normal (St.mk [(0, (AV.dat (List.length l) ex 2 (fun (i1 : Nat) => (AV.arr 2 1 (fun (j : Nat) => (AV.v (Value.int IntKind.u8 (((W.two (Prod.fst (W.wAt l i1)) (Prod.snd (W.wAt l i1)) j) : Nat) : Int)))))))), (1, (AV.dat (List.length b) ey 1 (rowL b))), (5, (AV.sb true)), (6, (AV.ptr 6 [])), (7, (AV.sl 78 [] 0 (List.length (W.Net.fly m)) (List.length (W.Net.fly m)) false 3)), (8, (AV.i (((i + 1) : Nat) : Int))), (9, (AV.i ((p : Nat) : Int))), (10, (AV.i ((q : Nat) : Int))), (11, (AV.ptr 11 [])), (49, (AV.v (Value.bool true))), (59, (AV.v (Value.bool false)))] [(6, (Blk.c (W.netA false false m))), (11, (Blk.c (AV.st [(W.netA false false (Prod.fst a)), (AV.i (Prod.fst (Prod.snd a))), (AV.i (Prod.snd (Prod.snd a)))]))), (78, (Blk.c (AV.arr (List.length (W.Net.fly m)) 3 (fun (k : Nat) => (W.pkA (W.kAt (W.Net.fly m) k))))))] [6, 11, 78])))))))))) ∧
 ((((p : Nat) : Int) == ((q : Nat) : Int)) = false →
 ((((Prod.snd (Prod.snd a)) != (0 : Int)) = true →
  (Φ Ex.ret (St.mk [(0, (AV.dat (List.length l) ex 2 (fun (i1 : Nat) => (AV.arr 2 1 (fun (j : Nat) => (AV.v (Value.int IntKind.u8 (((W.two (Prod.fst (W.wAt l i1)) (Prod.snd (W.wAt l i1)) j) : Nat) : Int)))))))), (1, (AV.dat (List.length b) ey 1 (rowL b))), (4, (AV.v (Value.bool false))), (5, (AV.sb true)), (6, (AV.ptr 6 [])), (7, (AV.sl 78 [] 0 (List.length (W.Net.fly m)) (List.length (W.Net.fly m)) false 3)), (8, (AV.i ((i : Nat) : Int))), (9, (AV.i ((p : Nat) : Int))), (10, (AV.i ((q : Nat) : Int))), (11, (AV.ptr 11 [])), (49, (AV.v (Value.bool false))), (68, (AV.v (Value.bool true)))] [(6, (Blk.c (W.netA false false m))), (11, (Blk.c (AV.st [(W.netA false false (Prod.fst a)), (AV.i (Prod.fst (Prod.snd a))), (AV.i (Prod.snd (Prod.snd a)))]))), (78, (Blk.c (AV.arr (List.length (W.Net.fly m)) 3 (fun (k : Nat) => (W.pkA (W.kAt (W.Net.fly m) k))))))] [6, 11, 78]))) ∧
  (((Prod.snd (Prod.snd a)) != (0 : Int)) = false →
  (Fun W.C W.P 27 [(W.netA false false (Prod.fst a))] [] (AV.sb (W.vB (W.toN (W.netA false false (Prod.fst a))))) [] ∧
   (True ∧
   (((! (W.vB (W.toN (W.netA false false (Prod.fst a))))) = true →
   (Φ Ex.ret (St.mk [(0, (AV.dat (List.length l) ex 2 (fun (i1 : Nat) => (AV.arr 2 1 (fun (j : Nat) => (AV.v (Value.int IntKind.u8 (((W.two (Prod.fst (W.wAt l i1)) (Prod.snd (W.wAt l i1)) j) : Nat) : Int)))))))), (1, (AV.dat (List.length b) ey 1 (rowL b))), (4, (AV.v (Value.bool false))), (5, (AV.sb true)), (6, (AV.ptr 6 [])), (7, (AV.sl 78 [] 0 (List.length (W.Net.fly m)) (List.length (W.Net.fly m)) false 3)), (8, (AV.i ((i : Nat) : Int))), (9, (AV.i ((p : Nat) : Int))), (10, (AV.i ((q : Nat) : Int))), (11, (AV.ptr 11 [])), (49, (AV.v (Value.bool false))), (68, (AV.v (Value.bool true)))] [(6, (Blk.c (W.netA false false m))), (11, (Blk.c (AV.st [(W.netA false false (Prod.fst a)), (AV.i (Prod.fst (Prod.snd a))), (AV.i (Prod.snd (Prod.snd a)))]))), (78, (Blk.c (AV.arr (List.length (W.Net.fly m)) 3 (fun (k : Nat) => (W.pkA (W.kAt (W.Net.fly m) k))))))] [6, 11, 78]))) ∧
   ((! (W.vB (W.toN (W.netA false false (Prod.fst a))))) = false →
   (((((List.length (W.Net.fly m)) + 1) * 24) ≤ 140737488355328) ∧
    ((W.ShK) ∧
    ((I64 (((i + 1) : Nat) : Int)) ∧
    (Φ Ex.normal (St.mk [(0, (AV.dat (List.length l) ex 2 (fun (i1 : Nat) => (AV.arr 2 1 (fun (j : Nat) => (AV.v (Value.int IntKind.u8 (((W.two (Prod.fst (W.wAt l i1)) (Prod.snd (W.wAt l i1)) j) : Nat) : Int)))))))), (1, (AV.dat (List.length b) ey 1 (rowL b))), (5, (AV.sb true)), (6, (AV.ptr 6 [])), (7, (AV.sl 1078 [] 0 ((List.length (W.Net.fly m)) + 1) ((List.length (W.Net.fly m)) + 1) false 3)), (8, (AV.i (((i + 1) : Nat) : Int))), (9, (AV.i ((p : Nat) : Int))), (10, (AV.i ((q : Nat) : Int))), (11, (AV.ptr 11 [])), (49, (AV.v (Value.bool false))), (68, (AV.v (Value.bool false)))] [(6, (Blk.c (W.netA false false (Prod.fst a)))), (11, (Blk.c (AV.st [(W.netA false false (Prod.fst a)), (AV.i (Prod.fst (Prod.snd a))), (AV.i (Prod.snd (Prod.snd a)))]))), (77, (Blk.c (AV.st [(AV.st [(AV.i (Prod.fst (Prod.snd a))), (AV.i ((p : Nat) : Int)), (AV.i ((q : Nat) : Int))])]))), (1078, (Blk.c (AV.arr ((List.length (W.Net.fly m)) + 1) 3 (cat (List.length (W.Net.fly m)) (fun (i1 : Nat) => (W.pkA (W.kAt (W.Net.fly m) (0 + i1)))) (fun (i1 : Nat) => (nthD [(AV.st [(AV.i (Prod.fst (Prod.snd a))), (AV.i ((p : Nat) : Int)), (AV.i ((q : Nat) : Int))])] (0 + i1) (AV.v (Value.tuple (List.toArray [])))))))))] [1078, 77, 6, 11, 78]))))))))))))) := by kernel_rfl
noncomputable abbrev bd_nlo_1 : Code := bodyAt (b_nlo) [1, 1, 1, 1, 0, 1, 0]
theorem ok_nlo_1 : codeOK bd_nlo_1 = true := by kernel_rfl
noncomputable abbrev rest_nlo_1 (K : Nat) (Φ : Ex → St → Prop) : Ex → St → Prop := fun e S' => Holds C P 163 [] K Φ (after C w_nlo (b_nlo) [1, 1, 1, 1, 0, 1, 0] [] lf e S')
theorem nlo_L1 (ey : Bool) (b : List Nat) (s : Net × Nat) (K : Nat) (Φ : Ex → St → Prop) :
  (Holds C P 163 [] K (RoundQ C 163 [] K (I_lo1 ey b) (fun s => VN s.1 ∧ s.1.cuts = [] ∧ s.1.fly.length + s.2 ≤ 12) (fun s => s.1.fly.length) ((fun s => s.1.fly.length) (s)) (rest_nlo_1 K Φ)) (vc C w_nlo bd_nlo_1 [] ((I_lo1 ey b) (s)) lf)) =
  (((decide ((((List.length (W.Net.fly (Prod.fst s))) : Nat) : Int) > (0 : Int))) = true →
 (((decide ((((Prod.snd s) : Nat) : Int) < (((List.length b) : Nat) : Int))) = true →
  ((((0 : Int) ≤ (((Prod.snd s) : Nat) : Int)) ∧ ((((Prod.snd s) : Nat) : Int) < (((List.length b) : Nat) : Int))) ∧
   ((I64 (((List.getD b (Prod.snd s) 0) : Nat) : Int)) ∧
   (((((List.length (W.Net.fly (Prod.fst s))) : Nat) : Int) ≠ (0 : Int)) ∧
   (∃ (S2 : St), Ent W.C 163 [] K (St.mk [(1, (AV.dat (List.length b) ey 1 (rowL b))), (5, (AV.sb true)), (6, (AV.ptr 6 [])), (7, (AV.sl 155 [] 0 (List.length (W.Net.fly (Prod.fst s))) (List.length (W.Net.fly (Prod.fst s))) false 3)), (12, (AV.i (((Prod.snd s) : Nat) : Int))), (13, (AV.i ((((List.getD b (Prod.snd s) 0) % (List.length (W.Net.fly (Prod.fst s)))) : Nat) : Int))), (81, (AV.v (Value.bool true))), (87, (AV.v (Value.bool true)))] [(6, (Blk.c (W.netA false false (Prod.fst s)))), (155, (Blk.c (AV.arr (List.length (W.Net.fly (Prod.fst s))) 3 (fun (k : Nat) => (W.pkA (W.kAt (W.Net.fly (Prod.fst s)) k))))))] [6, 155]) S2 ∧ Holds W.C W.P 163 [] K (RoundQ C 163 [] K (I_lo1 ey b) (fun s => VN s.1 ∧ s.1.cuts = [] ∧ s.1.fly.length + s.2 ≤ 12) (fun s => s.1.fly.length) ((fun s => s.1.fly.length) (s)) (rest_nlo_1 K Φ)) (cutAt W.C w_nlo bd_nlo_1 [1, 0, 0, 1, 1, 0] S2 (after W.C w_nlo bd_nlo_1 [1, 0, 0, 1, 1, 0] [] lf))))))) ∧
  ((decide ((((Prod.snd s) : Nat) : Int) < (((List.length b) : Nat) : Int))) = false →
  (∃ (S2 : St), Ent W.C 163 [] K (St.mk [(1, (AV.dat (List.length b) ey 1 (rowL b))), (5, (AV.sb true)), (6, (AV.ptr 6 [])), (7, (AV.sl 155 [] 0 (List.length (W.Net.fly (Prod.fst s))) (List.length (W.Net.fly (Prod.fst s))) false 3)), (12, (AV.i (((Prod.snd s) : Nat) : Int))), (13, (AV.i (0 : Int))), (81, (AV.v (Value.bool true))), (87, (AV.v (Value.bool false)))] [(6, (Blk.c (W.netA false false (Prod.fst s)))), (155, (Blk.c (AV.arr (List.length (W.Net.fly (Prod.fst s))) 3 (fun (k : Nat) => (W.pkA (W.kAt (W.Net.fly (Prod.fst s)) k))))))] [6, 155]) S2 ∧ Holds W.C W.P 163 [] K (RoundQ C 163 [] K (I_lo1 ey b) (fun s => VN s.1 ∧ s.1.cuts = [] ∧ s.1.fly.length + s.2 ≤ 12) (fun s => s.1.fly.length) ((fun s => s.1.fly.length) (s)) (rest_nlo_1 K Φ)) (cutAt W.C w_nlo bd_nlo_1 [1, 0, 0, 1, 1, 0] S2 (after W.C w_nlo bd_nlo_1 [1, 0, 0, 1, 1, 0] [] lf)))))) ∧
 ((decide ((((List.length (W.Net.fly (Prod.fst s))) : Nat) : Int) > (0 : Int))) = false →
 ((((((List.length (W.Net.fly (Prod.fst s))) : Nat) : Int) == (0 : Int)) = true →
  (Φ Ex.ret (St.mk [(1, (AV.dat (List.length b) ey 1 (rowL b))), (4, (AV.sb true)), (5, (AV.sb true)), (6, (AV.ptr 6 [])), (7, (AV.sl 155 [] 0 (List.length (W.Net.fly (Prod.fst s))) (List.length (W.Net.fly (Prod.fst s))) false 3)), (12, (AV.i (((Prod.snd s) : Nat) : Int))), (81, (AV.v (Value.bool false)))] [(6, (Blk.c (W.netA false false (Prod.fst s)))), (155, (Blk.c (AV.arr (List.length (W.Net.fly (Prod.fst s))) 3 (fun (k : Nat) => (W.pkA (W.kAt (W.Net.fly (Prod.fst s)) k))))))] [6, 155]))) ∧
  (((((List.length (W.Net.fly (Prod.fst s))) : Nat) : Int) == (0 : Int)) = false →
  (Φ Ex.ret (St.mk [(1, (AV.dat (List.length b) ey 1 (rowL b))), (4, (AV.v (Value.bool false))), (5, (AV.sb true)), (6, (AV.ptr 6 [])), (7, (AV.sl 155 [] 0 (List.length (W.Net.fly (Prod.fst s))) (List.length (W.Net.fly (Prod.fst s))) false 3)), (12, (AV.i (((Prod.snd s) : Nat) : Int))), (81, (AV.v (Value.bool false)))] [(6, (Blk.c (W.netA false false (Prod.fst s)))), (155, (Blk.c (AV.arr (List.length (W.Net.fly (Prod.fst s))) 3 (fun (k : Nat) => (W.pkA (W.kAt (W.Net.fly (Prod.fst s)) k))))))] [6, 155])))))) := by kernel_rfl
theorem nlo_C20 (ey : Bool) (b : List Nat) (m : Net) (i k : Nat) (K : Nat) (Φ : Ex → St → Prop) :
  (Holds C P 163 [] K Φ (cutAt C w_nlo bd_nlo_1 [1, 0, 0, 1, 1, 0] (S_lo20 ey b m i k) (after C w_nlo bd_nlo_1 [1, 0, 0, 1, 1, 0] [] lf))) =
  ((((0 : Int) ≤ ((k : Nat) : Int)) ∧ (((k : Nat) : Int) < (((List.length (W.Net.fly m)) : Nat) : Int))) ∧
 (Fun W.C W.P 17 [(W.netA false false m), (AV.i (Prod.fst (W.kAt (W.Net.fly m) (0 + k))))] [] (AV.st [(W.netA false false (W.takeN (W.toN (W.netA false false m)) (Prod.fst (W.kAt (W.Net.fly m) (0 + k))))), (W.pkA (W.takeP (W.toN (W.netA false false m)) (Prod.fst (W.kAt (W.Net.fly m) (0 + k))))), (AV.i (W.takeE (W.toN (W.netA false false m)) (Prod.fst (W.kAt (W.Net.fly m) (0 + k)))))]) [] ∧
 (((W.ShK) ∧ ((W.ShK) ∧ (((true = true) ∧ (true = true)) ∧ True))) ∧
 (∃ (S2 : St), Ent W.C 163 [] K (St.mk [(1, (AV.dat (List.length b) ey 1 (rowL b))), (5, (AV.sb true)), (6, (AV.ptr 6 [])), (7, (AV.sl 155 [] 0 (List.length (W.Net.fly m)) (List.length (W.Net.fly m)) false 3)), (12, (AV.i ((i : Nat) : Int))), (13, (AV.i ((k : Nat) : Int))), (14, (AV.ptr 14 []))] [(6, (Blk.c (W.netA false false m))), (14, (Blk.c (AV.st [(W.netA false false (W.takeN (W.toN (W.netA false false m)) (Prod.fst (W.kAt (W.Net.fly m) (0 + k))))), (W.pkA (W.takeP (W.toN (W.netA false false m)) (Prod.fst (W.kAt (W.Net.fly m) (0 + k))))), (AV.i (W.takeE (W.toN (W.netA false false m)) (Prod.fst (W.kAt (W.Net.fly m) (0 + k)))))]))), (155, (Blk.c (AV.arr (List.length (W.Net.fly m)) 3 (fun (k1 : Nat) => (W.pkA (W.kAt (W.Net.fly m) k1))))))] [14, 6, 155]) S2 ∧ Holds W.C W.P 163 [] K Φ (cutAt W.C w_nlo bd_nlo_1 [1, 0, 0, 1, 1, 1, 0, 0] S2 (after W.C w_nlo bd_nlo_1 [1, 0, 0, 1, 1, 1, 0, 0] [] lf)))))) := by kernel_rfl
theorem nlo_C21 (ey : Bool) (b : List Nat) (m : Net) (i k : Nat) (t : Net × Pk × Int) (K : Nat) (Φ : Ex → St → Prop) :
  (Holds C P 163 [] K Φ (cutAt C w_nlo bd_nlo_1 [1, 0, 0, 1, 1, 1, 0, 0] (S_lo21 ey b m i k t) (after C w_nlo bd_nlo_1 [1, 0, 0, 1, 1, 1, 0, 0] [] lf))) =
  ((((Prod.snd (Prod.snd t)) != (0 : Int)) = true →
 (Φ Ex.ret (St.mk [(1, (AV.dat (List.length b) ey 1 (rowL b))), (4, (AV.v (Value.bool false))), (5, (AV.sb true)), (6, (AV.ptr 6 [])), (7, (AV.sl 155 [] 0 (List.length (W.Net.fly m)) (List.length (W.Net.fly m)) false 3)), (12, (AV.i ((i : Nat) : Int))), (13, (AV.i ((k : Nat) : Int))), (14, (AV.ptr 14 [])), (142, (AV.v (Value.bool true)))] [(6, (Blk.c (W.netA false false m))), (14, (Blk.c (AV.st [(W.netA false false (Prod.fst t)), (W.pkA (Prod.fst (Prod.snd t))), (AV.i (Prod.snd (Prod.snd t)))]))), (155, (Blk.c (AV.arr (List.length (W.Net.fly m)) 3 (fun (k1 : Nat) => (W.pkA (W.kAt (W.Net.fly m) k1))))))] [6, 14, 155]))) ∧
 (((Prod.snd (Prod.snd t)) != (0 : Int)) = false →
 ((((0 : Int) ≤ ((k : Nat) : Int)) ∧ (((k : Nat) : Int) < (((List.length (W.Net.fly m)) : Nat) : Int))) ∧
  (((! (((Prod.fst (Prod.fst (Prod.snd t))) == (Prod.fst (W.kAt (W.Net.fly m) (0 + k)))) && (((Prod.fst (Prod.snd (Prod.fst (Prod.snd t)))) == (Prod.fst (Prod.snd (W.kAt (W.Net.fly m) (0 + k))))) && (((Prod.snd (Prod.snd (Prod.fst (Prod.snd t)))) == (Prod.snd (Prod.snd (W.kAt (W.Net.fly m) (0 + k))))) && true)))) = true →
  (Φ Ex.ret (St.mk [(1, (AV.dat (List.length b) ey 1 (rowL b))), (4, (AV.v (Value.bool false))), (5, (AV.sb true)), (6, (AV.ptr 6 [])), (7, (AV.sl 155 [] 0 (List.length (W.Net.fly m)) (List.length (W.Net.fly m)) false 3)), (12, (AV.i ((i : Nat) : Int))), (13, (AV.i ((k : Nat) : Int))), (14, (AV.ptr 14 [])), (142, (AV.v (Value.bool true)))] [(6, (Blk.c (W.netA false false m))), (14, (Blk.c (AV.st [(W.netA false false (Prod.fst t)), (W.pkA (Prod.fst (Prod.snd t))), (AV.i (Prod.snd (Prod.snd t)))]))), (155, (Blk.c (AV.arr (List.length (W.Net.fly m)) 3 (fun (k1 : Nat) => (W.pkA (W.kAt (W.Net.fly m) k1))))))] [6, 14, 155]))) ∧
  ((! (((Prod.fst (Prod.fst (Prod.snd t))) == (Prod.fst (W.kAt (W.Net.fly m) (0 + k)))) && (((Prod.fst (Prod.snd (Prod.fst (Prod.snd t)))) == (Prod.fst (Prod.snd (W.kAt (W.Net.fly m) (0 + k))))) && (((Prod.snd (Prod.snd (Prod.fst (Prod.snd t)))) == (Prod.snd (Prod.snd (W.kAt (W.Net.fly m) (0 + k))))) && true)))) = false →
  (Fun W.C W.P 27 [(W.netA false false (Prod.fst t))] [] (AV.sb (W.vB (W.toN (W.netA false false (Prod.fst t))))) [] ∧
   (True ∧
   (((! (W.vB (W.toN (W.netA false false (Prod.fst t))))) = true →
   (Φ Ex.ret (St.mk [(1, (AV.dat (List.length b) ey 1 (rowL b))), (4, (AV.v (Value.bool false))), (5, (AV.sb true)), (6, (AV.ptr 6 [])), (7, (AV.sl 155 [] 0 (List.length (W.Net.fly m)) (List.length (W.Net.fly m)) false 3)), (12, (AV.i ((i : Nat) : Int))), (13, (AV.i ((k : Nat) : Int))), (14, (AV.ptr 14 [])), (142, (AV.v (Value.bool true)))] [(6, (Blk.c (W.netA false false m))), (14, (Blk.c (AV.st [(W.netA false false (Prod.fst t)), (W.pkA (Prod.fst (Prod.snd t))), (AV.i (Prod.snd (Prod.snd t)))]))), (155, (Blk.c (AV.arr (List.length (W.Net.fly m)) 3 (fun (k1 : Nat) => (W.pkA (W.kAt (W.Net.fly m) k1))))))] [6, 14, 155]))) ∧
   ((! (W.vB (W.toN (W.netA false false (Prod.fst t))))) = false →
   ((((0 : Int) ≤ ((k : Nat) : Int)) ∧ (((k : Nat) : Int) < (((List.length (W.Net.fly m)) : Nat) : Int))) ∧
    (Fun W.C W.P 17 [(W.netA false false (Prod.fst t)), (AV.i (Prod.fst (W.kAt (W.Net.fly m) (0 + k))))] [] (AV.st [(W.netA false false (W.takeN (W.toN (W.netA false false (Prod.fst t))) (Prod.fst (W.kAt (W.Net.fly m) (0 + k))))), (W.pkA (W.takeP (W.toN (W.netA false false (Prod.fst t))) (Prod.fst (W.kAt (W.Net.fly m) (0 + k))))), (AV.i (W.takeE (W.toN (W.netA false false (Prod.fst t))) (Prod.fst (W.kAt (W.Net.fly m) (0 + k)))))]) [] ∧
    ((((W.takeE (W.toN (W.netA false false (Prod.fst t))) (Prod.fst (W.kAt (W.Net.fly m) (0 + k)))) != (90 : Int)) = true →
    (Φ Ex.ret (St.mk [(1, (AV.dat (List.length b) ey 1 (rowL b))), (4, (AV.v (Value.bool false))), (5, (AV.sb true)), (6, (AV.ptr 6 [])), (7, (AV.sl 155 [] 0 (List.length (W.Net.fly m)) (List.length (W.Net.fly m)) false 3)), (12, (AV.i ((i : Nat) : Int))), (13, (AV.i ((k : Nat) : Int))), (14, (AV.ptr 14 [])), (142, (AV.v (Value.bool true)))] [(6, (Blk.c (W.netA false false m))), (14, (Blk.c (AV.st [(W.netA false false (Prod.fst t)), (W.pkA (Prod.fst (Prod.snd t))), (AV.i (Prod.snd (Prod.snd t)))]))), (155, (Blk.c (AV.arr (List.length (W.Net.fly m)) 3 (fun (k1 : Nat) => (W.pkA (W.kAt (W.Net.fly m) k1))))))] [6, 14, 155]))) ∧
    (((W.takeE (W.toN (W.netA false false (Prod.fst t))) (Prod.fst (W.kAt (W.Net.fly m) (0 + k)))) != (90 : Int)) = false →
    ((I64 ((((List.length (W.Net.fly m)) : Nat) : Int) - (1 : Int))) ∧
     ((((((List.length (W.Net.fly (Prod.fst t))) : Nat) : Int) != ((((List.length (W.Net.fly m)) : Nat) : Int) - (1 : Int))) = true →
     (Φ Ex.ret (St.mk [(1, (AV.dat (List.length b) ey 1 (rowL b))), (4, (AV.v (Value.bool false))), (5, (AV.sb true)), (6, (AV.ptr 6 [])), (7, (AV.sl 155 [] 0 (List.length (W.Net.fly m)) (List.length (W.Net.fly m)) false 3)), (12, (AV.i ((i : Nat) : Int))), (13, (AV.i ((k : Nat) : Int))), (14, (AV.ptr 14 [])), (142, (AV.v (Value.bool true)))] [(6, (Blk.c (W.netA false false m))), (14, (Blk.c (AV.st [(W.netA false false (Prod.fst t)), (W.pkA (Prod.fst (Prod.snd t))), (AV.i (Prod.snd (Prod.snd t)))]))), (155, (Blk.c (AV.arr (List.length (W.Net.fly m)) 3 (fun (k1 : Nat) => (W.pkA (W.kAt (W.Net.fly m) k1))))))] [6, 14, 155]))) ∧
     (((((List.length (W.Net.fly (Prod.fst t))) : Nat) : Int) != ((((List.length (W.Net.fly m)) : Nat) : Int) - (1 : Int))) = false →
     ((((0 : Int) ≤ (0 : Int)) ∧ (((0 : Int) ≤ ((k : Nat) : Int)) ∧ (((k : Nat) : Int) ≤ (((List.length (W.Net.fly m)) : Nat) : Int)))) ∧
      ((0 = 0) ∧
      (((0 = 0) ∨ (0 < k)) ∧
      ((((0 + k) * 24) ≤ 140737488355328) ∧
      ((I64 (((k + 1) : Nat) : Int)) ∧
      ((((0 : Int) ≤ (((k + 1) : Nat) : Int)) ∧ (((((k + 1) : Nat) : Int) ≤ (((List.length (W.Net.fly m)) : Nat) : Int)) ∧ ((((List.length (W.Net.fly m)) : Nat) : Int) ≤ (((List.length (W.Net.fly m)) : Nat) : Int)))) ∧
      (((((0 + k) + ((List.length (W.Net.fly m)) - (k + 1))) * 24) ≤ 140737488355328) ∧
      ((W.ShK) ∧
      ((I64 (((i + 1) : Nat) : Int)) ∧
      (Φ Ex.normal (St.mk [(1, (AV.dat (List.length b) ey 1 (rowL b))), (5, (AV.sb true)), (6, (AV.ptr 6 [])), (7, (AV.sl 1155 [] 0 ((0 + k) + ((List.length (W.Net.fly m)) - (k + 1))) ((0 + k) + ((List.length (W.Net.fly m)) - (k + 1))) false 3)), (12, (AV.i (((i + 1) : Nat) : Int))), (13, (AV.i ((k : Nat) : Int))), (14, (AV.ptr 14 [])), (15, (AV.sl 147 [] 0 (0 + k) (0 + k) false 3)), (142, (AV.v (Value.bool false)))] [(6, (Blk.c (W.netA false false (Prod.fst t)))), (14, (Blk.c (AV.st [(W.netA false false (Prod.fst t)), (W.pkA (Prod.fst (Prod.snd t))), (AV.i (Prod.snd (Prod.snd t)))]))), (143, (Blk.c (AV.st []))), (155, (Blk.c (AV.arr (List.length (W.Net.fly m)) 3 (fun (k1 : Nat) => (W.pkA (W.kAt (W.Net.fly m) k1)))))), (1155, (Blk.c (AV.arr ((0 + k) + ((List.length (W.Net.fly m)) - (k + 1))) 3 (cat (0 + k) (fun (i1 : Nat) => (W.pkA (W.kAt (W.Net.fly m) (0 + (0 + i1))))) (fun (i1 : Nat) => (W.pkA (W.kAt (W.Net.fly m) ((0 + (k + 1)) + i1))))))))] [1155, 147, 143, 6, 14, 155]))))))))))))))))))))))))))) := by kernel_rfl
theorem reach_nil {n : Net} (h : n.cuts = []) (a b : Int) : reachN n a b = true := by unfold reachN bsB; rw [h]; rfl
theorem VN.take_at {n : Net} (h : VN n) (hc : n.cuts = []) {k : Nat} (hk : k < n.fly.length) : takeE n (kAt n.fly k).1 = 0 ∧ takeP n (kAt n.fly k).1 = kAt n.fly k ∧ takeN n (kAt n.fly k).1 = withoutN n k := by
  obtain ⟨h1, h2⟩ := h.hit hk rfl
  have hp : pkN n (kAt n.fly k).1 = kAt n.fly k := by unfold pkN; rw [h1]
  have e : takeE n (kAt n.fly k).1 = 0 := by unfold takeE; rw [h2, reach_nil hc]; rfl
  exact ⟨e, by unfold takeP; rw [if_pos e, hp], by unfold takeN; rw [if_pos e]; exact (h.lose_at hk).1⟩
theorem nlo_fun (ex : Bool) (l : List NN) (ey : Bool) (b : List Nat) (hb : Small b) : Fun C P F_nlo [dTw ex l, dB ey b] [] (.sb true) [] := by
  refine in_nlo (W := w_nlo) rfl 0 (by simp) rfl (fun id h => absurd rfl h) ?_
  refine of_eq (nlo_A ex l ey b 0 _) ⟨sanity_fun, trivial, by simp, cut_ok (S2 := S_lo3 ex l ey b net0) (ent_of [(6, 6), (18, 78)] rfl (tm_cons rfl (sm_same rfl) (tm_cons rfl (sm_same rfl) (tm_cons rfl (sm_same rfl) (tm_cons rfl (sm_ptr rfl) (tm_cons rfl (sm_sl rfl rfl (Nat.le_refl _) (Nat.le_refl _) (by simp)) tm_nil))))) (hp_cons rfl rfl (z_net _ _ _) (hp_cons rfl rfl (sm_row rfl rfl rfl (fun i x hx => by cases i <;> cases hx)) hp_nil))) ?_⟩
  refine of_eq (nlo_C3 ex l ey b net0 0 _) ?_
  refine loop_inv (W := w_nlo) ctx mixed ok_nlo_0 (I_lo0 ex l ey b) (fun s => VN s.1 ∧ s.1.cuts = [] ∧ s.1.fly.length ≤ s.2 ∧ s.1.next = 1 + s.1.fly.length ∧ s.2 ≤ l.length ∧ s.2 ≤ 12) (fun s => 12 - s.2) (net0, 0) ⟨.zero 1 (by decide) (by decide), rfl, Nat.le_refl _, rfl, Nat.zero_le _, Nat.zero_le _⟩ ?_ fun s hs => ?_
  · exact ent_of [(6, 6), (78, 78)] rfl (tm_cons rfl (sm_same rfl) (tm_cons rfl (sm_same rfl) (tm_cons rfl (sm_same rfl) (tm_cons rfl (sm_ptr rfl) (tm_cons rfl (sm_sl rfl rfl (Nat.le_refl _) (Nat.le_refl _) (fun h => ⟨h, rfl⟩)) (tm_cons rfl (sm_same rfl) tm_nil)))))) (hp_cons rfl rfl (sm_same rfl) (hp_cons rfl rfl (sm_same rfl) hp_nil))
  obtain ⟨m, i⟩ := s
  obtain ⟨hv, hc, hle, hnx, hi, h12⟩ := hs
  dsimp only at hv hc hle hnx hi h12
  have e0 : toN (netD m) = m := toN_net false false m
  have fin : ∀ S, Ent C 163 [] 0 S (I_lo1 ey b (m, 0)) → LoopOK C P 163 [] 0 (bodyAt b_nlo [1, 1, 1, 1, 0, 1, 0]) S (rest_nlo_1 0 (FunPost C 163 0 [.tmp 4] (.sb true) [])) := fun S hS => by
    refine loop_inv (W := w_nlo) ctx mixed ok_nlo_1 (I_lo1 ey b) (fun s => VN s.1 ∧ s.1.cuts = [] ∧ s.1.fly.length + s.2 ≤ 12) (fun s => s.1.fly.length) (m, 0) ⟨hv, hc, by dsimp only; omega⟩ hS fun s hs => ?_
    clear hv hc hle hnx hi h12 e0 hS
    obtain ⟨m, i⟩ := s
    obtain ⟨hv, hc, hl⟩ := hs
    dsimp only at hv hc hl
    have e0 : toN (netD m) = m := toN_net false false m
    have key : ∀ k, k < m.fly.length → Holds C P 163 [] 0 (RoundQ C 163 [] 0 (I_lo1 ey b) (fun s => VN s.1 ∧ s.1.cuts = [] ∧ s.1.fly.length + s.2 ≤ 12) (fun s => s.1.fly.length) m.fly.length (rest_nlo_1 0 (FunPost C 163 0 [.tmp 4] (.sb true) []))) (cutAt C w_nlo bd_nlo_1 [1, 0, 0, 1, 1, 0] (S_lo20 ey b m i k) (after C w_nlo bd_nlo_1 [1, 0, 0, 1, 1, 0] [] lf)) := fun k hk => by
      refine of_eq (nlo_C20 ey b m i k 0 _) ?_
      rw [e0, Nat.zero_add]
      obtain ⟨k1, k2, k3⟩ := hv.take_at hc hk
      obtain ⟨t, ht⟩ : ∃ t : Net × Pk × Int, t = (withoutN m k, kAt m.fly k, 0) := ⟨_, rfl⟩
      have vt : VN t.1 := ht ▸ hv.erase k
      have hg : findB t.1 (kAt m.fly k).1 = false := by rw [ht]; exact hv.gone hk
      have tl : t.1.fly.length = m.fly.length - 1 := by rw [ht]; show (m.fly.eraseIdx k).length = _; rw [List.length_eraseIdx, if_pos hk]
      have tc : t.1.cuts = [] := by rw [ht]; exact hc
      refine ⟨(by first | omega | decide | (unfold I64; omega)), taken_fun hv _, by simp, cut_ok (S2 := S_lo21 ey b m i k t) (ent_of [(6, 6), (14, 14), (155, 155)] rfl (tm_cons rfl (sm_same rfl) (tm_cons rfl (sm_same rfl) (tm_cons rfl (sm_ptr rfl) (tm_cons rfl (sm_sl rfl rfl (Nat.le_refl _) (Nat.le_refl _) (fun h => ⟨h, rfl⟩)) (tm_cons rfl (sm_same rfl) (tm_cons rfl (sm_same rfl) (tm_cons rfl (sm_ptr rfl) tm_nil))))))) (hp_cons rfl rfl (sm_same rfl) (hp_cons rfl rfl (sm_eq rfl (by rw [k1, k2, k3, ht])) (hp_cons rfl rfl (sm_same rfl) hp_nil)))) ?_⟩
      refine of_eq (nlo_C21 ey b m i k t 0 _) ?_
      have e1 : toN (netD t.1) = t.1 := toN_net false false _
      rw [e1]
      simp only [Nat.zero_add]
      rw [pk_eq]
      obtain ⟨f1, f2, f3⟩ := find_no hg
      refine ⟨fun q => (ne_no (by rw [ht]) q).elim, fun _ => ⟨(by first | omega | decide | (unfold I64; omega)), fun q => (nt_no (decide_eq_true (by rw [ht])) q).elim, fun _ => ⟨rvalid_ok vt, trivial, fun q => (nt_no (valid_ok vt) q).elim, fun _ => ⟨(by first | omega | decide | (unfold I64; omega)), taken_fun vt _, fun q => (ne_no f1 q).elim, fun _ => ⟨(by first | omega | decide | (unfold I64; omega)), fun q => (ne_no (by rw [tl]; omega) q).elim, fun _ => ⟨(by first | omega | decide | (unfold I64; omega)), by simp, by simp, (by first | omega | decide | (unfold I64; omega)), (by first | omega | decide | (unfold I64; omega)), (by first | omega | decide | (unfold I64; omega)), (by first | omega | decide | (unfold I64; omega)), by simp, (by first | omega | decide | (unfold I64; omega)), ?_⟩⟩⟩⟩⟩⟩
      have hle : t.1.fly.length = k + (m.fly.length - (k + 1)) := by omega
      refine round_end (t.1, i + 1) ⟨vt, tc, by dsimp only; omega⟩ (ent_of [(6, 6), (1155, 155)] rfl (tm_cons rfl (sm_same rfl) (tm_cons rfl (sm_same rfl) (tm_cons rfl (sm_ptr rfl) (tm_cons rfl (sm_sl rfl hle.symm (by dsimp only; omega) (by dsimp only; omega) (by simp)) (tm_cons rfl (sm_same rfl) tm_nil))))) (hp_cons rfl rfl (sm_same rfl) (hp_cons rfl rfl (sm_arr' hle.symm fun j hj => ?_) hp_nil))) (by dsimp only; omega)
      rw [ht]
      exact er_fly hk hj
    refine of_eq (nlo_L1 ey b (m, i) 0 _) ?_
    dsimp only
    refine ⟨fun q => ⟨fun q2 => ?_, fun q2 => ?_⟩, fun q => ?_⟩
    · have q := of_decide_eq_true q
      have q2 := of_decide_eq_true q2
      have hbi : b.getD i 0 < 256 := by
        rw [List.getD_eq_getElem?_getD, List.getElem?_eq_getElem (by omega)]
        exact hb _ (List.getElem_mem (by omega))
      have hk : b.getD i 0 % m.fly.length < m.fly.length := Nat.mod_lt _ (by omega)
      exact ⟨(by first | omega | decide | (unfold I64; omega)), (by first | omega | decide | (unfold I64; omega)), (by first | omega | decide | (unfold I64; omega)), cut_ok (S2 := S_lo20 ey b m i (b.getD i 0 % m.fly.length)) (ent_of [(6, 6), (155, 155)] rfl (tm_cons rfl (sm_same rfl) (tm_cons rfl (sm_same rfl) (tm_cons rfl (sm_ptr rfl) (tm_cons rfl (sm_sl rfl rfl (Nat.le_refl _) (Nat.le_refl _) (fun h => ⟨h, rfl⟩)) (tm_cons rfl (sm_same rfl) (tm_cons rfl (sm_same rfl) tm_nil)))))) (hp_cons rfl rfl (sm_same rfl) (hp_cons rfl rfl (sm_same rfl) hp_nil))) (key _ hk)⟩
    · have q := of_decide_eq_true q
      exact cut_ok (S2 := S_lo20 ey b m i 0) (ent_of [(6, 6), (155, 155)] rfl (tm_cons rfl (sm_same rfl) (tm_cons rfl (sm_same rfl) (tm_cons rfl (sm_ptr rfl) (tm_cons rfl (sm_sl rfl rfl (Nat.le_refl _) (Nat.le_refl _) (fun h => ⟨h, rfl⟩)) (tm_cons rfl (sm_same rfl) (tm_cons rfl (sm_same rfl) tm_nil)))))) (hp_cons rfl rfl (sm_same rfl) (hp_cons rfl rfl (sm_same rfl) hp_nil))) (key 0 (by omega))
    · have q := of_decide_eq_false q
      exact ⟨fun _ => post_tmp rfl (sm_sb rfl), fun q2 => (tf_no (by rw [beq_dec]; exact decide_eq_true (by omega)) q2).elim⟩
  refine of_eq (nlo_L0 ex l ey b (m, i) 0 _) ?_
  dsimp only
  rw [e0]
  refine ⟨fun q => ⟨fun q2 => ?_, fun q2 => fin _ (ent_of [(6, 6), (78, 155)] rfl (tm_cons rfl (sm_same rfl) (tm_cons rfl (sm_same rfl) (tm_cons rfl (sm_ptr rfl) (tm_cons rfl (sm_sl rfl rfl (Nat.le_refl _) (Nat.le_refl _) (fun h => ⟨h, rfl⟩)) (tm_cons rfl (sm_same rfl) tm_nil))))) (hp_cons rfl rfl (sm_same rfl) (hp_cons rfl rfl (sm_same rfl) hp_nil)))⟩, fun q => fin _ (ent_of [(6, 6), (78, 155)] rfl (tm_cons rfl (sm_same rfl) (tm_cons rfl (sm_same rfl) (tm_cons rfl (sm_ptr rfl) (tm_cons rfl (sm_sl rfl rfl (Nat.le_refl _) (Nat.le_refl _) (fun h => ⟨h, rfl⟩)) (tm_cons rfl (sm_same rfl) tm_nil))))) (hp_cons rfl rfl (sm_same rfl) (hp_cons rfl rfl (sm_same rfl) hp_nil)))⟩
  have q := of_decide_eq_true q
  have q2 := of_decide_eq_true q2
  obtain ⟨a, ha⟩ : ∃ a, a = two (wAt l i).1 (wAt l i).2 0 % 6 := ⟨_, rfl⟩
  obtain ⟨c, hcc⟩ : ∃ c, c = two (wAt l i).1 (wAt l i).2 1 % 6 := ⟨_, rfl⟩
  rw [← ha, ← hcc]
  have ha6 : a < 6 := by omega
  have hc6 : c < 6 := by omega
  clear ha hcc
  obtain ⟨t, ht⟩ : ∃ t : Net × Int × Int, t = (sendN m (a : Int) (c : Int), sendI m (a : Int) (c : Int), sendE m (a : Int) (c : Int)) := ⟨_, rfl⟩
  have vt : VN t.1 := ht ▸ hv.send _ _
  refine ⟨(by first | omega | decide | (unfold I64; omega)), (by first | omega | decide | (unfold I64; omega)), (by first | omega | decide | (unfold I64; omega)), (by first | omega | decide | (unfold I64; omega)), (by first | omega | decide | (unfold I64; omega)), (by first | omega | decide | (unfold I64; omega)), (by first | omega | decide | (unfold I64; omega)), (by first | omega | decide | (unfold I64; omega)), sent_fun hv _ _, by simp, cut_ok (S2 := S_lo8 ex l ey b m i a c t) (ent_of [(6, 6), (11, 11), (78, 78)] rfl (tm_cons rfl (sm_same rfl) (tm_cons rfl (sm_same rfl) (tm_cons rfl (sm_same rfl) (tm_cons rfl (sm_ptr rfl) (tm_cons rfl (sm_sl rfl rfl (Nat.le_refl _) (Nat.le_refl _) (fun h => ⟨h, rfl⟩)) (tm_cons rfl (sm_same rfl) (tm_cons rfl (sm_same rfl) (tm_cons rfl (sm_same rfl) (tm_cons rfl (sm_ptr rfl) tm_nil))))))))) (hp_cons rfl rfl (sm_same rfl) (hp_cons rfl rfl (sm_eq rfl (by rw [ht])) (hp_cons rfl rfl (sm_same rfl) hp_nil)))) ?_⟩
  refine of_eq (nlo_C8 ex l ey b m i a c t 0 _) ?_
  have e1 : toN (netD t.1) = t.1 := toN_net false false _
  rw [e0, e1]
  refine ⟨fun g => ?_, fun g => ?_⟩
  · have g : (a : Int) = c := eq_of_beq g
    have hE : sendE m (a : Int) (c : Int) = 1 := by
      have : partsB (a : Int) (c : Int) = false := Bool.eq_false_iff.2 fun hp => by
        simp only [partsB, Bool.and_eq_true, decide_eq_true_eq] at hp; omega
      unfold sendE; rw [this]; rfl
    have hN : t.1 = m := by rw [ht]; exact send_no (by rw [hE]; decide)
    refine ⟨fun g => (ne_no (by rw [ht]; exact hE) g).elim, fun _ => ⟨same_ok vt, trivial, fun g => (nt_no (by rw [hN]; exact same_self m) g).elim, fun _ => ⟨(by first | omega | decide | (unfold I64; omega)), round_end (m, i + 1) ⟨hv, hc, by dsimp only; omega, hnx, by dsimp only; omega, by dsimp only; omega⟩ (ent_of [(6, 6), (78, 78)] rfl (tm_cons rfl (sm_same rfl) (tm_cons rfl (sm_same rfl) (tm_cons rfl (sm_same rfl) (tm_cons rfl (sm_ptr rfl) (tm_cons rfl (sm_sl rfl rfl (Nat.le_refl _) (Nat.le_refl _) (fun h => ⟨h, rfl⟩)) (tm_cons rfl (sm_same rfl) tm_nil)))))) (hp_cons rfl rfl (sm_same rfl) (hp_cons rfl rfl (sm_same rfl) hp_nil))) (by dsimp only; omega)⟩⟩⟩
  · have g : ¬ (a : Int) = c := fun e => by rw [e] at g; simp at g
    have hp : partsB (a : Int) (c : Int) = true := by simp only [partsB, Bool.and_eq_true, decide_eq_true_eq]; omega
    have hA : addB m = true := addB_t.2 (by omega)
    have hE : sendE m (a : Int) (c : Int) = 0 := by unfold sendE; rw [hp, hA]; rfl
    have hI : t.2.1 = m.next := by rw [ht]; show sendI m _ _ = _; unfold sendI; rw [if_pos hE]
    have hN : t.1 = ⟨m.fly ++ [(m.next, (a : Int), (c : Int))], m.cuts, m.next + 1⟩ := by rw [ht]; show sendN m _ _ = _; unfold sendN addN; rw [if_pos hE, if_pos hA]
    have hL : t.1.fly.length = m.fly.length + 1 := by rw [hN]; simp
    refine ⟨fun g => (ne_no (by rw [ht]; exact hE) g).elim, fun _ => ⟨rvalid_ok vt, trivial, fun g => (nt_no (valid_ok vt) g).elim, fun _ => ⟨(by first | omega | decide | (unfold I64; omega)), by simp, (by first | omega | decide | (unfold I64; omega)), round_end (t.1, i + 1) ⟨vt, by rw [hN]; exact hc, by dsimp only; omega, by rw [hL]; rw [hN]; dsimp only; omega, by dsimp only; omega, by dsimp only; omega⟩ (ent_of [(6, 6), (1078, 78)] rfl (tm_cons rfl (sm_same rfl) (tm_cons rfl (sm_same rfl) (tm_cons rfl (sm_same rfl) (tm_cons rfl (sm_ptr rfl) (tm_cons rfl (sm_sl rfl hL.symm (by dsimp only; omega) (by dsimp only; omega) (by simp)) (tm_cons rfl (sm_same rfl) tm_nil)))))) (hp_cons rfl rfl (sm_same rfl) (hp_cons rfl rfl (sm_arr' hL.symm fun j hj => ?_) hp_nil))) (by dsimp only; omega)⟩⟩⟩
    rw [hN, hI]
    dsimp only
    rw [kAt_app rfl hj]
    unfold cat
    by_cases h : j < m.fly.length
    · rw [if_pos h, if_pos h]
      show pkA (kAt m.fly (0 + j)) = _
      rw [Nat.zero_add]
    · rw [if_neg h, if_neg h, show j - m.fly.length = 0 by omega]; rfl
theorem typed_two {n : Nat} {x : AV} (h : Typed C.tt (n + 2) 52 x) : ∃ p : NN, (p.1 < 256 ∧ p.2 < 256) ∧ sim (fun _ => none) x (twA p) := by
  obtain ⟨z, hz, f, rfl, hf⟩ := typed_u8s (e := 5) (m := 2) rfl rfl rfl h
  refine ⟨(z 0, z 1), ⟨hz 0 (by decide), hz 1 (by decide)⟩, rfl, rfl, fun i hi => .inl ?_⟩
  match i, hi with
  | 0, _ => exact hf 0 (by decide)
  | 1, _ => exact hf 1 (by decide)
theorem nlo_law {x0 x1 : AV} (h0 : Typed C.tt 6 50 x0) (h1 : Typed C.tt 6 51 x1) : Fun C P F_nlo [x0, x1] [] (.sb true) [] := by
  obtain ⟨l, ex, _, _, s0⟩ := typed_list (s := 52) rfl (0, 0) twA (fun p => p.1 < 256 ∧ p.2 < 256) (fun _ hy => typed_two hy) h0
  obtain ⟨b, ey, hb, _, s1⟩ := typed_bytes (e := 5) rfl rfl rfl h1
  exact (nlo_fun ex l ey b hb).sim ⟨s0, s1, trivial⟩ trivial
end Go.Bu.W

