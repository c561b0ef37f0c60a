/- NetMatchesReference. -/
import Derived.Test.YtjfggjlbnmdceaaKNQ
namespace Go.Bu.W
def wayLm (keep : List Nat) (nt : Nat) (cuts : List Nat) : Way := ⟨crN9, byrefI, keep, [], nt, cuts⟩
def w_nlm : Way := wayLm [0, 1, 2, 4, 5, 6, 7, 8, 9, 10, 11, 12, 13, 14, 15, 103] 176 [3,8,9,11,12,13]
abbrev In3 : Type := Int × Int × Int
def thr (p : In3) : Nat → Int
  | 0 => p.1
  | 1 => p.2.1
  | _ => p.2.2
abbrev thA (p : In3) : AV := .arr 3 1 (fun j => .i (thr p j))
def S_lm3 (w : In3) (x : Pk) (n : Net) : St := { tm := [(4, .ptr 4 []), (5, .ptr 5 []), (7, .sb true), (8, .ptr 8 [])], hp := [(4, .c (thA w)), (5, .c (pkA x)), (8, .c (netD n))], seen := [4, 5, 8] }
def S_lm8 (w : In3) (n odd more : Net) : St := { tm := [(4, .ptr 4 []), (7, .sb true), (8, .ptr 8 []), (9, .ptr 9 []), (10, .ptr 10 []), (11, .ptr 11 [])], hp := [(4, .c (thA w)), (8, .c (netD n)), (9, .c (prA (w.1, w.2.1))), (10, .c (netD odd)), (11, .c (netD more))], seen := [4, 8, 9, 10, 11] }
def S_lm9 (w : In3) (n odd more : Net) (a : Net × Int × Int) : St := { tm := [(4, .ptr 4 []), (7, .sb true), (8, .ptr 8 []), (9, .ptr 9 []), (10, .ptr 10 []), (11, .ptr 11 []), (12, .ptr 12 []), (13, .ptr 13 [])], hp := [(4, .c (thA w)), (8, .c (netD n)), (9, .c (prA (w.1, w.2.1))), (10, .c (netD odd)), (11, .c (netD more)), (12, .c (sS a)), (13, .c (sS a))], seen := [4, 8, 9, 10, 11, 12, 13] }
def S_lm12 (w : In3) (n odd more : Net) : St := { tm := [(4, .ptr 4 []), (7, .sb true), (8, .ptr 8 []), (9, .ptr 9 []), (10, .ptr 10 []), (11, .ptr 11 []), (14, .sb true)], hp := [(4, .c (thA w)), (8, .c (netD n)), (9, .c (prA (w.1, w.2.1))), (10, .c (netD odd)), (11, .c (netD more))], seen := [4, 8, 9, 10, 11] }
def S_lm13 (n odd more : Net) : St := { tm := [(7, .sb true), (8, .ptr 8 []), (10, .ptr 10 []), (11, .ptr 11 []), (14, .sb true), (15, .sb true)], hp := [(8, .c (netD n)), (10, .c (netD odd)), (11, .c (netD more))], seen := [8, 10, 11] }

theorem nlm_A (ex : Bool) (l : List Tri) (w : In3) (x : Pk) (K : Nat) (Φ : Ex → St → Prop) :
  (Holds C P 176 [] K Φ (vc C w_nlm b_nlm [] (start [dTri ex l, thA w, pkA x] []) lf)) =
  (Fun W.C W.P 11 [] [] (AV.sb true) [] ∧
 (True ∧
 (Fun W.C W.P 12 [(W.dTri ex l)] [] (W.netA false false (W.madeN (W.tlL l))) [] ∧
 ((W.ShK) ∧
 (∃ (S2 : St), Ent W.C 176 [] K (St.mk [(0, (W.dTri ex l)), (1, (AV.arr 3 1 (fun (j : Nat) => (AV.i (W.thr w j))))), (2, (W.pkA x)), (4, (AV.ptr 4 [])), (5, (AV.ptr 5 [])), (6, (AV.v (Value.bool false))), (7, (AV.sb true)), (8, (AV.ptr 8 []))] [(4, (Blk.c (AV.arr 3 1 (fun (j : Nat) => (AV.i (W.thr w j)))))), (5, (Blk.c (W.pkA x))), (8, (Blk.c (W.netA false false (W.madeN (W.tlL l)))))] [8, 5, 4]) S2 ∧ Holds W.C W.P 176 [] K Φ (cutAt W.C w_nlm b_nlm [1, 1, 1, 0] S2 (after W.C w_nlm b_nlm [1, 1, 1, 0] [] lf))))))) := by kernel_rfl
theorem nlm_C3 (w : In3) (x : Pk) (n : Net) (K : Nat) (Φ : Ex → St → Prop) :
  (Holds C P 176 [] K Φ (cutAt C w_nlm b_nlm [1, 1, 1, 0] (S_lm3 w x n) (after C w_nlm b_nlm [1, 1, 1, 0] [] lf))) =
  ((((0 : Int) ≤ (0 : Int)) ∧ ((0 : Int) < (3 : Int))) ∧
 ((((0 : Int) ≤ (1 : Int)) ∧ ((1 : Int) < (3 : Int))) ∧
 (((2 = 2) ∧ ((1 = 1) ∧ (∀ (i : Nat), ((i < 2) → (shp (AV.i (0 : Int)) (layParts (fun (x1 : Nat) => (AV.i (0 : Int))) [(0, (AV.i (W.thr w 0))), (1, (AV.i (W.thr w 1)))] i)))))) ∧
 ((W.ShK) ∧
 ((0 = 0) ∧
 (((0 = 0) ∨ (0 < (List.length (W.Net.fly n)))) ∧
 ((((0 + (List.length (W.Net.fly n))) * 24) ≤ 140737488355328) ∧
 (((((0 + (List.length (W.Net.fly n))) + 1) * 24) ≤ 140737488355328) ∧
 ((0 = 0) ∧
 (((0 = 0) ∨ (0 < (List.length (W.Net.cuts n)))) ∧
 ((((0 + (List.length (W.Net.cuts n))) * 16) ≤ 140737488355328) ∧
 (((((0 + (List.length (W.Net.cuts n))) + 1) * 16) ≤ 140737488355328) ∧
 ((W.ShK) ∧
 ((((0 : Int) ≤ (2 : Int)) ∧ ((2 : Int) < (3 : Int))) ∧
 (∃ (S2 : St), Ent W.C 176 [] K (St.mk [(4, (AV.ptr 4 [])), (5, (AV.ptr 5 [])), (7, (AV.sb true)), (8, (AV.ptr 8 [])), (9, (AV.ptr 9 [])), (10, (AV.ptr 10 [])), (11, (AV.ptr 11 []))] [(4, (Blk.c (AV.arr 3 1 (fun (j : Nat) => (AV.i (W.thr w j)))))), (5, (Blk.c (W.pkA x))), (8, (Blk.c (W.netA false false n))), (9, (Blk.c (AV.arr 2 1 (layParts (fun (x1 : Nat) => (AV.i (0 : Int))) [(0, (AV.i (W.thr w 0))), (1, (AV.i (W.thr w 1)))])))), (10, (Blk.c (AV.st [(AV.sl 31 [] 0 ((0 + (List.length (W.Net.fly n))) + 1) ((0 + (List.length (W.Net.fly n))) + 1) false 3), (AV.sl 39 [] 0 ((0 + (List.length (W.Net.cuts n))) + 1) ((0 + (List.length (W.Net.cuts n))) + 1) false 2), (AV.i (W.Net.next n))]))), (11, (Blk.c (AV.st [(W.dK false (W.Net.fly n)), (W.dP false (W.Net.cuts n)), (AV.i (W.thr w 2))]))), (25, (Blk.c (AV.st []))), (30, (Blk.c (AV.st [(W.pkA x)]))), (31, (Blk.c (AV.arr ((0 + (List.length (W.Net.fly n))) + 1) 3 (cat (0 + (List.length (W.Net.fly n))) (fun (i : Nat) => (W.pkA (W.kAt (W.Net.fly n) (0 + i)))) (fun (i : Nat) => (nthD [(W.pkA x)] (0 + i) (AV.v (Value.tuple (List.toArray []))))))))), (33, (Blk.c (AV.st []))), (38, (Blk.c (AV.st [(AV.arr 2 1 (layParts (fun (x1 : Nat) => (AV.i (0 : Int))) [(0, (AV.i (W.thr w 0))), (1, (AV.i (W.thr w 1)))]))]))), (39, (Blk.c (AV.arr ((0 + (List.length (W.Net.cuts n))) + 1) 2 (cat (0 + (List.length (W.Net.cuts n))) (fun (i : Nat) => (W.prA (W.pAt (W.Net.cuts n) (0 + i)))) (fun (i : Nat) => (nthD [(AV.arr 2 1 (layParts (fun (x1 : Nat) => (AV.i (0 : Int))) [(0, (AV.i (W.thr w 0))), (1, (AV.i (W.thr w 1)))]))] (0 + i) (AV.v (Value.tuple (List.toArray [])))))))))] [11, 39, 38, 36, 33, 31, 30, 28, 25, 10, 9, 4, 5, 8]) S2 ∧ Holds W.C W.P 176 [] K Φ (cutAt W.C w_nlm b_nlm [1, 1, 1, 1, 1, 1, 1, 1, 0] S2 (after W.C w_nlm b_nlm [1, 1, 1, 1, 1, 1, 1, 1, 0] [] lf))))))))))))))))) := by kernel_rfl
theorem nlm_C8 (w : In3) (n odd more : Net) (K : Nat) (Φ : Ex → St → Prop) :
  (Holds C P 176 [] K Φ (cutAt C w_nlm b_nlm [1, 1, 1, 1, 1, 1, 1, 1, 0] (S_lm8 w n odd more) (after C w_nlm b_nlm [1, 1, 1, 1, 1, 1, 1, 1, 0] [] lf))) =
  ((((0 : Int) ≤ (0 : Int)) ∧ ((0 : Int) < (3 : Int))) ∧
 ((((0 : Int) ≤ (1 : Int)) ∧ ((1 : Int) < (3 : Int))) ∧
 (Fun W.C W.P 13 [(W.netA false false n), (AV.i (W.thr w 0)), (AV.i (W.thr w 1))] [] (AV.st [(W.netA false false (W.sendN (W.toN (W.netA false false n)) (W.thr w 0) (W.thr w 1))), (AV.i (W.sendI (W.toN (W.netA false false n)) (W.thr w 0) (W.thr w 1))), (AV.i (W.sendE (W.toN (W.netA false false n)) (W.thr w 0) (W.thr w 1)))]) [] ∧
 ((((0 : Int) ≤ (0 : Int)) ∧ ((0 : Int) < (3 : Int))) ∧
 ((((0 : Int) ≤ (1 : Int)) ∧ ((1 : Int) < (3 : Int))) ∧
 (Fun W.C W.P 14 [(W.netA false false n), (AV.i (W.thr w 0)), (AV.i (W.thr w 1))] [] (AV.st [(W.netA false false (W.sendN (W.toN (W.netA false false n)) (W.thr w 0) (W.thr w 1))), (AV.i (W.sendI (W.toN (W.netA false false n)) (W.thr w 0) (W.thr w 1))), (AV.i (W.sendE (W.toN (W.netA false false n)) (W.thr w 0) (W.thr w 1)))]) [] ∧
 (((W.ShK) ∧ (((true = true) ∧ (true = true)) ∧ (((true = true) ∧ (true = true)) ∧ True))) ∧
 (((W.ShK) ∧ (((true = true) ∧ (true = true)) ∧ (((true = true) ∧ (true = true)) ∧ True))) ∧
 (∃ (S2 : St), Ent W.C 176 [] K (St.mk [(4, (AV.ptr 4 [])), (7, (AV.sb true)), (8, (AV.ptr 8 [])), (9, (AV.ptr 9 [])), (10, (AV.ptr 10 [])), (11, (AV.ptr 11 [])), (12, (AV.ptr 12 [])), (13, (AV.ptr 13 []))] [(4, (Blk.c (AV.arr 3 1 (fun (j : Nat) => (AV.i (W.thr w j)))))), (8, (Blk.c (W.netA false false n))), (9, (Blk.c (W.prA ((Prod.fst w), (Prod.fst (Prod.snd w)))))), (10, (Blk.c (W.netA false false odd))), (11, (Blk.c (W.netA false false more))), (12, (Blk.c (AV.st [(W.netA false false (W.sendN (W.toN (W.netA false false n)) (W.thr w 0) (W.thr w 1))), (AV.i (W.sendI (W.toN (W.netA false false n)) (W.thr w 0) (W.thr w 1))), (AV.i (W.sendE (W.toN (W.netA false false n)) (W.thr w 0) (W.thr w 1)))]))), (13, (Blk.c (AV.st [(W.netA false false (W.sendN (W.toN (W.netA false false n)) (W.thr w 0) (W.thr w 1))), (AV.i (W.sendI (W.toN (W.netA false false n)) (W.thr w 0) (W.thr w 1))), (AV.i (W.sendE (W.toN (W.netA false false n)) (W.thr w 0) (W.thr w 1)))])))] [13, 12, 4, 8, 9, 10, 11]) S2 ∧ Holds W.C W.P 176 [] K Φ (cutAt W.C w_nlm b_nlm [1, 1, 1, 1, 1, 1, 1, 1, 1, 0, 0] S2 (after W.C w_nlm b_nlm [1, 1, 1, 1, 1, 1, 1, 1, 1, 0, 0] [] lf))))))))))) := by kernel_rfl
theorem nlm_C9 (w : In3) (n odd more : Net) (a : Net × Int × Int) (K : Nat) (Φ : Ex → St → Prop) :
  (Holds C P 176 [] K Φ (cutAt C w_nlm b_nlm [1, 1, 1, 1, 1, 1, 1, 1, 1, 0, 0] (S_lm9 w n odd more a) (after C w_nlm b_nlm [1, 1, 1, 1, 1, 1, 1, 1, 1, 0, 0] [] lf))) =
  (Fun W.C W.P 15 [(W.netA false false (Prod.fst a)), (W.netA false false (Prod.fst a))] [] (AV.sb (W.sameB (W.toN (W.netA false false (Prod.fst a))) (W.toN (W.netA false false (Prod.fst a))))) [] ∧
 (True ∧
 (((! (W.sameB (W.toN (W.netA false false (Prod.fst a))) (W.toN (W.netA false false (Prod.fst a))))) = true →
 (Φ Ex.ret (St.mk [(4, (AV.ptr 4 [])), (6, (AV.v (Value.bool false))), (7, (AV.sb true)), (8, (AV.ptr 8 [])), (9, (AV.ptr 9 [])), (10, (AV.ptr 10 [])), (11, (AV.ptr 11 [])), (12, (AV.ptr 12 [])), (13, (AV.ptr 13 [])), (103, (AV.v (Value.bool true)))] [(4, (Blk.c (AV.arr 3 1 (fun (j : Nat) => (AV.i (W.thr w j)))))), (8, (Blk.c (W.netA false false n))), (9, (Blk.c (W.prA ((Prod.fst w), (Prod.fst (Prod.snd w)))))), (10, (Blk.c (W.netA false false odd))), (11, (Blk.c (W.netA false false more))), (12, (Blk.c (AV.st [(W.netA false false (Prod.fst a)), (AV.i (Prod.fst (Prod.snd a))), (AV.i (Prod.snd (Prod.snd a)))]))), (13, (Blk.c (AV.st [(W.netA false false (Prod.fst a)), (AV.i (Prod.fst (Prod.snd a))), (AV.i (Prod.snd (Prod.snd a)))])))] [4, 8, 9, 10, 11, 12, 13]))) ∧
 ((! (W.sameB (W.toN (W.netA false false (Prod.fst a))) (W.toN (W.netA false false (Prod.fst a))))) = false →
 ((((Prod.fst (Prod.snd a)) != (Prod.fst (Prod.snd a))) = true →
  (Φ Ex.ret (St.mk [(4, (AV.ptr 4 [])), (6, (AV.v (Value.bool false))), (7, (AV.sb true)), (8, (AV.ptr 8 [])), (9, (AV.ptr 9 [])), (10, (AV.ptr 10 [])), (11, (AV.ptr 11 [])), (12, (AV.ptr 12 [])), (13, (AV.ptr 13 [])), (103, (AV.v (Value.bool true)))] [(4, (Blk.c (AV.arr 3 1 (fun (j : Nat) => (AV.i (W.thr w j)))))), (8, (Blk.c (W.netA false false n))), (9, (Blk.c (W.prA ((Prod.fst w), (Prod.fst (Prod.snd w)))))), (10, (Blk.c (W.netA false false odd))), (11, (Blk.c (W.netA false false more))), (12, (Blk.c (AV.st [(W.netA false false (Prod.fst a)), (AV.i (Prod.fst (Prod.snd a))), (AV.i (Prod.snd (Prod.snd a)))]))), (13, (Blk.c (AV.st [(W.netA false false (Prod.fst a)), (AV.i (Prod.fst (Prod.snd a))), (AV.i (Prod.snd (Prod.snd a)))])))] [4, 8, 9, 10, 11, 12, 13]))) ∧
  (((Prod.fst (Prod.snd a)) != (Prod.fst (Prod.snd a))) = false →
  ((((Prod.snd (Prod.snd a)) != (Prod.snd (Prod.snd a))) = true →
   (Φ Ex.ret (St.mk [(4, (AV.ptr 4 [])), (6, (AV.v (Value.bool false))), (7, (AV.sb true)), (8, (AV.ptr 8 [])), (9, (AV.ptr 9 [])), (10, (AV.ptr 10 [])), (11, (AV.ptr 11 [])), (12, (AV.ptr 12 [])), (13, (AV.ptr 13 [])), (103, (AV.v (Value.bool true)))] [(4, (Blk.c (AV.arr 3 1 (fun (j : Nat) => (AV.i (W.thr w j)))))), (8, (Blk.c (W.netA false false n))), (9, (Blk.c (W.prA ((Prod.fst w), (Prod.fst (Prod.snd w)))))), (10, (Blk.c (W.netA false false odd))), (11, (Blk.c (W.netA false false more))), (12, (Blk.c (AV.st [(W.netA false false (Prod.fst a)), (AV.i (Prod.fst (Prod.snd a))), (AV.i (Prod.snd (Prod.snd a)))]))), (13, (Blk.c (AV.st [(W.netA false false (Prod.fst a)), (AV.i (Prod.fst (Prod.snd a))), (AV.i (Prod.snd (Prod.snd a)))])))] [4, 8, 9, 10, 11, 12, 13]))) ∧
   (((Prod.snd (Prod.snd a)) != (Prod.snd (Prod.snd a))) = false →
   ((((0 : Int) ≤ (2 : Int)) ∧ ((2 : Int) < (3 : Int))) ∧
    (Fun W.C W.P 17 [(W.netA false false n), (AV.i (W.thr w 2))] [] (AV.st [(W.netA false false (W.takeN (W.toN (W.netA false false n)) (W.thr w 2))), (W.pkA (W.takeP (W.toN (W.netA false false n)) (W.thr w 2))), (AV.i (W.takeE (W.toN (W.netA false false n)) (W.thr w 2)))]) [] ∧
    ((((0 : Int) ≤ (2 : Int)) ∧ ((2 : Int) < (3 : Int))) ∧
    (Fun W.C W.P 18 [(W.netA false false n), (AV.i (W.thr w 2))] [] (AV.st [(W.netA false false (W.takeN (W.toN (W.netA false false n)) (W.thr w 2))), (W.pkA (W.takeP (W.toN (W.netA false false n)) (W.thr w 2))), (AV.i (W.takeE (W.toN (W.netA false false n)) (W.thr w 2)))]) [] ∧
    (Fun W.C W.P 16 [(AV.st [(W.netA false false (W.takeN (W.toN (W.netA false false n)) (W.thr w 2))), (W.pkA (W.takeP (W.toN (W.netA false false n)) (W.thr w 2))), (AV.i (W.takeE (W.toN (W.netA false false n)) (W.thr w 2)))]), (AV.st [(W.netA false false (W.takeN (W.toN (W.netA false false n)) (W.thr w 2))), (W.pkA (W.takeP (W.toN (W.netA false false n)) (W.thr w 2))), (AV.i (W.takeE (W.toN (W.netA false false n)) (W.thr w 2)))])] [] (AV.sb (W.sameTB ((W.toN (W.netA false false (W.takeN (W.toN (W.netA false false n)) (W.thr w 2)))), (((Prod.fst (W.takeP (W.toN (W.netA false false n)) (W.thr w 2))), ((Prod.fst (Prod.snd (W.takeP (W.toN (W.netA false false n)) (W.thr w 2)))), (Prod.snd (Prod.snd (W.takeP (W.toN (W.netA false false n)) (W.thr w 2)))))), (W.takeE (W.toN (W.netA false false n)) (W.thr w 2)))) ((W.toN (W.netA false false (W.takeN (W.toN (W.netA false false n)) (W.thr w 2)))), (((Prod.fst (W.takeP (W.toN (W.netA false false n)) (W.thr w 2))), ((Prod.fst (Prod.snd (W.takeP (W.toN (W.netA false false n)) (W.thr w 2)))), (Prod.snd (Prod.snd (W.takeP (W.toN (W.netA false false n)) (W.thr w 2)))))), (W.takeE (W.toN (W.netA false false n)) (W.thr w 2)))))) [] ∧
    (True ∧
    (((! (W.sameTB ((W.toN (W.netA false false (W.takeN (W.toN (W.netA false false n)) (W.thr w 2)))), (((Prod.fst (W.takeP (W.toN (W.netA false false n)) (W.thr w 2))), ((Prod.fst (Prod.snd (W.takeP (W.toN (W.netA false false n)) (W.thr w 2)))), (Prod.snd (Prod.snd (W.takeP (W.toN (W.netA false false n)) (W.thr w 2)))))), (W.takeE (W.toN (W.netA false false n)) (W.thr w 2)))) ((W.toN (W.netA false false (W.takeN (W.toN (W.netA false false n)) (W.thr w 2)))), (((Prod.fst (W.takeP (W.toN (W.netA false false n)) (W.thr w 2))), ((Prod.fst (Prod.snd (W.takeP (W.toN (W.netA false false n)) (W.thr w 2)))), (Prod.snd (Prod.snd (W.takeP (W.toN (W.netA false false n)) (W.thr w 2)))))), (W.takeE (W.toN (W.netA false false n)) (W.thr w 2)))))) = true →
    (Φ Ex.ret (St.mk [(4, (AV.ptr 4 [])), (6, (AV.v (Value.bool false))), (7, (AV.sb true)), (8, (AV.ptr 8 [])), (9, (AV.ptr 9 [])), (10, (AV.ptr 10 [])), (11, (AV.ptr 11 [])), (12, (AV.ptr 12 [])), (13, (AV.ptr 13 [])), (103, (AV.v (Value.bool true)))] [(4, (Blk.c (AV.arr 3 1 (fun (j : Nat) => (AV.i (W.thr w j)))))), (8, (Blk.c (W.netA false false n))), (9, (Blk.c (W.prA ((Prod.fst w), (Prod.fst (Prod.snd w)))))), (10, (Blk.c (W.netA false false odd))), (11, (Blk.c (W.netA false false more))), (12, (Blk.c (AV.st [(W.netA false false (Prod.fst a)), (AV.i (Prod.fst (Prod.snd a))), (AV.i (Prod.snd (Prod.snd a)))]))), (13, (Blk.c (AV.st [(W.netA false false (Prod.fst a)), (AV.i (Prod.fst (Prod.snd a))), (AV.i (Prod.snd (Prod.snd a)))])))] [4, 8, 9, 10, 11, 12, 13]))) ∧
    ((! (W.sameTB ((W.toN (W.netA false false (W.takeN (W.toN (W.netA false false n)) (W.thr w 2)))), (((Prod.fst (W.takeP (W.toN (W.netA false false n)) (W.thr w 2))), ((Prod.fst (Prod.snd (W.takeP (W.toN (W.netA false false n)) (W.thr w 2)))), (Prod.snd (Prod.snd (W.takeP (W.toN (W.netA false false n)) (W.thr w 2)))))), (W.takeE (W.toN (W.netA false false n)) (W.thr w 2)))) ((W.toN (W.netA false false (W.takeN (W.toN (W.netA false false n)) (W.thr w 2)))), (((Prod.fst (W.takeP (W.toN (W.netA false false n)) (W.thr w 2))), ((Prod.fst (Prod.snd (W.takeP (W.toN (W.netA false false n)) (W.thr w 2)))), (Prod.snd (Prod.snd (W.takeP (W.toN (W.netA false false n)) (W.thr w 2)))))), (W.takeE (W.toN (W.netA false false n)) (W.thr w 2)))))) = false →
    ((((0 : Int) ≤ (0 : Int)) ∧ ((0 : Int) < (3 : Int))) ∧
     ((((0 : Int) ≤ (1 : Int)) ∧ ((1 : Int) < (3 : Int))) ∧
     (Fun W.C W.P 19 [(W.netA false false n), (AV.i (W.thr w 0)), (AV.i (W.thr w 1))] [] (AV.sb (W.reachN (W.toN (W.netA false false n)) (W.thr w 0) (W.thr w 1))) [] ∧
     (True ∧
     ((((0 : Int) ≤ (0 : Int)) ∧ ((0 : Int) < (3 : Int))) ∧
     ((((0 : Int) ≤ (1 : Int)) ∧ ((1 : Int) < (3 : Int))) ∧
     (Fun W.C W.P 20 [(W.netA false false n), (AV.i (W.thr w 0)), (AV.i (W.thr w 1))] [] (AV.sb (W.reachN (W.toN (W.netA false false n)) (W.thr w 0) (W.thr w 1))) [] ∧
     (True ∧
     (((! ((W.reachN (W.toN (W.netA false false n)) (W.thr w 0) (W.thr w 1)) == (W.reachN (W.toN (W.netA false false n)) (W.thr w 0) (W.thr w 1)))) = true →
     (Φ Ex.ret (St.mk [(4, (AV.ptr 4 [])), (6, (AV.v (Value.bool false))), (7, (AV.sb true)), (8, (AV.ptr 8 [])), (9, (AV.ptr 9 [])), (10, (AV.ptr 10 [])), (11, (AV.ptr 11 [])), (12, (AV.ptr 12 [])), (13, (AV.ptr 13 [])), (103, (AV.v (Value.bool true)))] [(4, (Blk.c (AV.arr 3 1 (fun (j : Nat) => (AV.i (W.thr w j)))))), (8, (Blk.c (W.netA false false n))), (9, (Blk.c (W.prA ((Prod.fst w), (Prod.fst (Prod.snd w)))))), (10, (Blk.c (W.netA false false odd))), (11, (Blk.c (W.netA false false more))), (12, (Blk.c (AV.st [(W.netA false false (Prod.fst a)), (AV.i (Prod.fst (Prod.snd a))), (AV.i (Prod.snd (Prod.snd a)))]))), (13, (Blk.c (AV.st [(W.netA false false (Prod.fst a)), (AV.i (Prod.fst (Prod.snd a))), (AV.i (Prod.snd (Prod.snd a)))])))] [4, 8, 9, 10, 11, 12, 13]))) ∧
     ((! ((W.reachN (W.toN (W.netA false false n)) (W.thr w 0) (W.thr w 1)) == (W.reachN (W.toN (W.netA false false n)) (W.thr w 0) (W.thr w 1)))) = false →
     (∃ (S2 : St), Ent W.C 176 [] K (St.mk [(4, (AV.ptr 4 [])), (7, (AV.sb true)), (8, (AV.ptr 8 [])), (9, (AV.ptr 9 [])), (10, (AV.ptr 10 [])), (11, (AV.ptr 11 [])), (12, (AV.ptr 12 [])), (13, (AV.ptr 13 [])), (103, (AV.v (Value.bool false)))] [(4, (Blk.c (AV.arr 3 1 (fun (j : Nat) => (AV.i (W.thr w j)))))), (8, (Blk.c (W.netA false false n))), (9, (Blk.c (W.prA ((Prod.fst w), (Prod.fst (Prod.snd w)))))), (10, (Blk.c (W.netA false false odd))), (11, (Blk.c (W.netA false false more))), (12, (Blk.c (AV.st [(W.netA false false (Prod.fst a)), (AV.i (Prod.fst (Prod.snd a))), (AV.i (Prod.snd (Prod.snd a)))]))), (13, (Blk.c (AV.st [(W.netA false false (Prod.fst a)), (AV.i (Prod.fst (Prod.snd a))), (AV.i (Prod.snd (Prod.snd a)))])))] [4, 8, 9, 10, 11, 12, 13]) S2 ∧ Holds W.C W.P 176 [] K Φ (cutAt W.C w_nlm b_nlm [1, 1, 1, 1, 1, 1, 1, 1, 1, 1, 0] S2 (after W.C w_nlm b_nlm [1, 1, 1, 1, 1, 1, 1, 1, 1, 1, 0] [] lf))))))))))))))))))))))))))))) := by kernel_rfl
theorem nlm_C11 (w : In3) (n odd more : Net) (K : Nat) (Φ : Ex → St → Prop) :
  (Holds C P 176 [] K Φ (cutAt C w_nlm b_nlm [1, 1, 1, 1, 1, 1, 1, 1, 1, 1, 0] (S_lm8 w n odd more) (after C w_nlm b_nlm [1, 1, 1, 1, 1, 1, 1, 1, 1, 1, 0] [] lf))) =
  ((((0 : Int) ≤ (2 : Int)) ∧ ((2 : Int) < (3 : Int))) ∧
 (Fun W.C W.P 21 [(W.netA false false n), (AV.i (0 : Int)), (AV.arr 2 1 (layParts (fun (x : Nat) => (AV.i (0 : Int))) [(0, (AV.i (W.thr w 2))), (1, (AV.i (0 : Int)))]))] [] (AV.st [(W.netA false false (W.doneN (W.toN (W.netA false false n)) (0 : Int) ((W.thr w 2), (0 : Int)))), (AV.st [(AV.i (0 : Int)), (AV.i (0 : Int)), (AV.i (0 : Int))]), (AV.i (W.doneE (W.toN (W.netA false false n)) (0 : Int) ((W.thr w 2), (0 : Int))))]) [] ∧
 ((((0 : Int) ≤ (2 : Int)) ∧ ((2 : Int) < (3 : Int))) ∧
 (Fun W.C W.P 22 [(W.netA false false n), (AV.i (W.thr w 2))] [] (AV.st [(W.netA false false (W.loseN (W.toN (W.netA false false n)) (W.thr w 2))), (AV.st [(AV.i (0 : Int)), (AV.i (0 : Int)), (AV.i (0 : Int))]), (AV.i (W.loseE (W.toN (W.netA false false n)) (W.thr w 2)))]) [] ∧
 (Fun W.C W.P 16 [(AV.st [(W.netA false false (W.doneN (W.toN (W.netA false false n)) (0 : Int) ((W.thr w 2), (0 : Int)))), (AV.st [(AV.i (0 : Int)), (AV.i (0 : Int)), (AV.i (0 : Int))]), (AV.i (W.doneE (W.toN (W.netA false false n)) (0 : Int) ((W.thr w 2), (0 : Int))))]), (AV.st [(W.netA false false (W.loseN (W.toN (W.netA false false n)) (W.thr w 2))), (AV.st [(AV.i (0 : Int)), (AV.i (0 : Int)), (AV.i (0 : Int))]), (AV.i (W.loseE (W.toN (W.netA false false n)) (W.thr w 2)))])] [] (AV.sb (W.sameTB ((W.toN (W.netA false false (W.doneN (W.toN (W.netA false false n)) (0 : Int) ((W.thr w 2), (0 : Int))))), (((0 : Int), ((0 : Int), (0 : Int))), (W.doneE (W.toN (W.netA false false n)) (0 : Int) ((W.thr w 2), (0 : Int))))) ((W.toN (W.netA false false (W.loseN (W.toN (W.netA false false n)) (W.thr w 2)))), (((0 : Int), ((0 : Int), (0 : Int))), (W.loseE (W.toN (W.netA false false n)) (W.thr w 2)))))) [] ∧
 (True ∧
 (((W.sameTB ((W.toN (W.netA false false (W.doneN (W.toN (W.netA false false n)) (0 : Int) ((W.thr w 2), (0 : Int))))), (((0 : Int), ((0 : Int), (0 : Int))), (W.doneE (W.toN (W.netA false false n)) (0 : Int) ((W.thr w 2), (0 : Int))))) ((W.toN (W.netA false false (W.loseN (W.toN (W.netA false false n)) (W.thr w 2)))), (((0 : Int), ((0 : Int), (0 : Int))), (W.loseE (W.toN (W.netA false false n)) (W.thr w 2))))) = true →
 ((((0 : Int) ≤ (2 : Int)) ∧ ((2 : Int) < (3 : Int))) ∧
  (Fun W.C W.P 21 [(W.netA false false n), (AV.i (1 : Int)), (AV.arr 2 1 (layParts (fun (x : Nat) => (AV.i (0 : Int))) [(0, (AV.i (W.thr w 2))), (1, (AV.i (0 : Int)))]))] [] (AV.st [(W.netA false false (W.doneN (W.toN (W.netA false false n)) (1 : Int) ((W.thr w 2), (0 : Int)))), (AV.st [(AV.i (0 : Int)), (AV.i (0 : Int)), (AV.i (0 : Int))]), (AV.i (W.doneE (W.toN (W.netA false false n)) (1 : Int) ((W.thr w 2), (0 : Int))))]) [] ∧
  ((((0 : Int) ≤ (2 : Int)) ∧ ((2 : Int) < (3 : Int))) ∧
  (Fun W.C W.P 23 [(W.netA false false n), (AV.i (W.thr w 2))] [] (AV.st [(W.netA false false (W.dblN (W.toN (W.netA false false n)) (W.thr w 2))), (AV.st [(AV.i (0 : Int)), (AV.i (0 : Int)), (AV.i (0 : Int))]), (AV.i (W.dblE (W.toN (W.netA false false n)) (W.thr w 2)))]) [] ∧
  (Fun W.C W.P 16 [(AV.st [(W.netA false false (W.doneN (W.toN (W.netA false false n)) (1 : Int) ((W.thr w 2), (0 : Int)))), (AV.st [(AV.i (0 : Int)), (AV.i (0 : Int)), (AV.i (0 : Int))]), (AV.i (W.doneE (W.toN (W.netA false false n)) (1 : Int) ((W.thr w 2), (0 : Int))))]), (AV.st [(W.netA false false (W.dblN (W.toN (W.netA false false n)) (W.thr w 2))), (AV.st [(AV.i (0 : Int)), (AV.i (0 : Int)), (AV.i (0 : Int))]), (AV.i (W.dblE (W.toN (W.netA false false n)) (W.thr w 2)))])] [] (AV.sb (W.sameTB ((W.toN (W.netA false false (W.doneN (W.toN (W.netA false false n)) (1 : Int) ((W.thr w 2), (0 : Int))))), (((0 : Int), ((0 : Int), (0 : Int))), (W.doneE (W.toN (W.netA false false n)) (1 : Int) ((W.thr w 2), (0 : Int))))) ((W.toN (W.netA false false (W.dblN (W.toN (W.netA false false n)) (W.thr w 2)))), (((0 : Int), ((0 : Int), (0 : Int))), (W.dblE (W.toN (W.netA false false n)) (W.thr w 2)))))) [] ∧
  (True ∧
  (∃ (S2 : St), Ent W.C 176 [] K (St.mk [(4, (AV.ptr 4 [])), (7, (AV.sb true)), (8, (AV.ptr 8 [])), (9, (AV.ptr 9 [])), (10, (AV.ptr 10 [])), (11, (AV.ptr 11 [])), (14, (AV.sb (W.sameTB ((W.toN (W.netA false false (W.doneN (W.toN (W.netA false false n)) (1 : Int) ((W.thr w 2), (0 : Int))))), (((0 : Int), ((0 : Int), (0 : Int))), (W.doneE (W.toN (W.netA false false n)) (1 : Int) ((W.thr w 2), (0 : Int))))) ((W.toN (W.netA false false (W.dblN (W.toN (W.netA false false n)) (W.thr w 2)))), (((0 : Int), ((0 : Int), (0 : Int))), (W.dblE (W.toN (W.netA false false n)) (W.thr w 2)))))))] [(4, (Blk.c (AV.arr 3 1 (fun (j : Nat) => (AV.i (W.thr w j)))))), (8, (Blk.c (W.netA false false n))), (9, (Blk.c (W.prA ((Prod.fst w), (Prod.fst (Prod.snd w)))))), (10, (Blk.c (W.netA false false odd))), (11, (Blk.c (W.netA false false more)))] [4, 8, 9, 10, 11]) S2 ∧ Holds W.C W.P 176 [] K Φ (cutAt W.C w_nlm b_nlm [1, 1, 1, 1, 1, 1, 1, 1, 1, 1, 1, 0] S2 (after W.C w_nlm b_nlm [1, 1, 1, 1, 1, 1, 1, 1, 1, 1, 1, 0] [] lf)))))))))) ∧
 ((W.sameTB ((W.toN (W.netA false false (W.doneN (W.toN (W.netA false false n)) (0 : Int) ((W.thr w 2), (0 : Int))))), (((0 : Int), ((0 : Int), (0 : Int))), (W.doneE (W.toN (W.netA false false n)) (0 : Int) ((W.thr w 2), (0 : Int))))) ((W.toN (W.netA false false (W.loseN (W.toN (W.netA false false n)) (W.thr w 2)))), (((0 : Int), ((0 : Int), (0 : Int))), (W.loseE (W.toN (W.netA false false n)) (W.thr w 2))))) = false →
 (∃ (S2 : St), Ent W.C 176 [] K (St.mk [(4, (AV.ptr 4 [])), (7, (AV.sb true)), (8, (AV.ptr 8 [])), (9, (AV.ptr 9 [])), (10, (AV.ptr 10 [])), (11, (AV.ptr 11 [])), (14, (AV.v (Value.bool false)))] [(4, (Blk.c (AV.arr 3 1 (fun (j : Nat) => (AV.i (W.thr w j)))))), (8, (Blk.c (W.netA false false n))), (9, (Blk.c (W.prA ((Prod.fst w), (Prod.fst (Prod.snd w)))))), (10, (Blk.c (W.netA false false odd))), (11, (Blk.c (W.netA false false more)))] [4, 8, 9, 10, 11]) S2 ∧ Holds W.C W.P 176 [] K Φ (cutAt W.C w_nlm b_nlm [1, 1, 1, 1, 1, 1, 1, 1, 1, 1, 1, 0] S2 (after W.C w_nlm b_nlm [1, 1, 1, 1, 1, 1, 1, 1, 1, 1, 1, 0] [] lf))))))))))) := by kernel_rfl
theorem nlm_C12 (w : In3) (n odd more : Net) (K : Nat) (Φ : Ex → St → Prop) :
  (Holds C P 176 [] K Φ (cutAt C w_nlm b_nlm [1, 1, 1, 1, 1, 1, 1, 1, 1, 1, 1, 0] (S_lm12 w n odd more) (after C w_nlm b_nlm [1, 1, 1, 1, 1, 1, 1, 1, 1, 1, 1, 0] [] lf))) =
  (Fun W.C W.P 21 [(W.netA false false n), (AV.i (2 : Int)), (W.prA ((Prod.fst w), (Prod.fst (Prod.snd w))))] [] (AV.st [(W.netA false false (W.doneN (W.toN (W.netA false false n)) (2 : Int) ((W.two (Prod.fst ((Prod.fst w), (Prod.fst (Prod.snd w)))) (Prod.snd ((Prod.fst w), (Prod.fst (Prod.snd w)))) 0), (W.two (Prod.fst ((Prod.fst w), (Prod.fst (Prod.snd w)))) (Prod.snd ((Prod.fst w), (Prod.fst (Prod.snd w)))) 1)))), (AV.st [(AV.i (0 : Int)), (AV.i (0 : Int)), (AV.i (0 : Int))]), (AV.i (W.doneE (W.toN (W.netA false false n)) (2 : Int) ((W.two (Prod.fst ((Prod.fst w), (Prod.fst (Prod.snd w)))) (Prod.snd ((Prod.fst w), (Prod.fst (Prod.snd w)))) 0), (W.two (Prod.fst ((Prod.fst w), (Prod.fst (Prod.snd w)))) (Prod.snd ((Prod.fst w), (Prod.fst (Prod.snd w)))) 1))))]) [] ∧
 ((((0 : Int) ≤ (0 : Int)) ∧ ((0 : Int) < (3 : Int))) ∧
 ((((0 : Int) ≤ (1 : Int)) ∧ ((1 : Int) < (3 : Int))) ∧
 (Fun W.C W.P 24 [(W.netA false false n), (AV.i (W.thr w 0)), (AV.i (W.thr w 1))] [] (AV.st [(W.netA false false (W.sevN (W.toN (W.netA false false n)) (W.thr w 0) (W.thr w 1))), (AV.st [(AV.i (0 : Int)), (AV.i (0 : Int)), (AV.i (0 : Int))]), (AV.i (W.sevE (W.toN (W.netA false false n)) (W.thr w 0) (W.thr w 1)))]) [] ∧
 (Fun W.C W.P 16 [(AV.st [(W.netA false false (W.doneN (W.toN (W.netA false false n)) (2 : Int) ((W.two (Prod.fst ((Prod.fst w), (Prod.fst (Prod.snd w)))) (Prod.snd ((Prod.fst w), (Prod.fst (Prod.snd w)))) 0), (W.two (Prod.fst ((Prod.fst w), (Prod.fst (Prod.snd w)))) (Prod.snd ((Prod.fst w), (Prod.fst (Prod.snd w)))) 1)))), (AV.st [(AV.i (0 : Int)), (AV.i (0 : Int)), (AV.i (0 : Int))]), (AV.i (W.doneE (W.toN (W.netA false false n)) (2 : Int) ((W.two (Prod.fst ((Prod.fst w), (Prod.fst (Prod.snd w)))) (Prod.snd ((Prod.fst w), (Prod.fst (Prod.snd w)))) 0), (W.two (Prod.fst ((Prod.fst w), (Prod.fst (Prod.snd w)))) (Prod.snd ((Prod.fst w), (Prod.fst (Prod.snd w)))) 1))))]), (AV.st [(W.netA false false (W.sevN (W.toN (W.netA false false n)) (W.thr w 0) (W.thr w 1))), (AV.st [(AV.i (0 : Int)), (AV.i (0 : Int)), (AV.i (0 : Int))]), (AV.i (W.sevE (W.toN (W.netA false false n)) (W.thr w 0) (W.thr w 1)))])] [] (AV.sb (W.sameTB ((W.toN (W.netA false false (W.doneN (W.toN (W.netA false false n)) (2 : Int) ((W.two (Prod.fst ((Prod.fst w), (Prod.fst (Prod.snd w)))) (Prod.snd ((Prod.fst w), (Prod.fst (Prod.snd w)))) 0), (W.two (Prod.fst ((Prod.fst w), (Prod.fst (Prod.snd w)))) (Prod.snd ((Prod.fst w), (Prod.fst (Prod.snd w)))) 1))))), (((0 : Int), ((0 : Int), (0 : Int))), (W.doneE (W.toN (W.netA false false n)) (2 : Int) ((W.two (Prod.fst ((Prod.fst w), (Prod.fst (Prod.snd w)))) (Prod.snd ((Prod.fst w), (Prod.fst (Prod.snd w)))) 0), (W.two (Prod.fst ((Prod.fst w), (Prod.fst (Prod.snd w)))) (Prod.snd ((Prod.fst w), (Prod.fst (Prod.snd w)))) 1))))) ((W.toN (W.netA false false (W.sevN (W.toN (W.netA false false n)) (W.thr w 0) (W.thr w 1)))), (((0 : Int), ((0 : Int), (0 : Int))), (W.sevE (W.toN (W.netA false false n)) (W.thr w 0) (W.thr w 1)))))) [] ∧
 (True ∧
 (((W.sameTB ((W.toN (W.netA false false (W.doneN (W.toN (W.netA false false n)) (2 : Int) ((W.two (Prod.fst ((Prod.fst w), (Prod.fst (Prod.snd w)))) (Prod.snd ((Prod.fst w), (Prod.fst (Prod.snd w)))) 0), (W.two (Prod.fst ((Prod.fst w), (Prod.fst (Prod.snd w)))) (Prod.snd ((Prod.fst w), (Prod.fst (Prod.snd w)))) 1))))), (((0 : Int), ((0 : Int), (0 : Int))), (W.doneE (W.toN (W.netA false false n)) (2 : Int) ((W.two (Prod.fst ((Prod.fst w), (Prod.fst (Prod.snd w)))) (Prod.snd ((Prod.fst w), (Prod.fst (Prod.snd w)))) 0), (W.two (Prod.fst ((Prod.fst w), (Prod.fst (Prod.snd w)))) (Prod.snd ((Prod.fst w), (Prod.fst (Prod.snd w)))) 1))))) ((W.toN (W.netA false false (W.sevN (W.toN (W.netA false false n)) (W.thr w 0) (W.thr w 1)))), (((0 : Int), ((0 : Int), (0 : Int))), (W.sevE (W.toN (W.netA false false n)) (W.thr w 0) (W.thr w 1))))) = true →
 (Fun W.C W.P 21 [(W.netA false false n), (AV.i (3 : Int)), (W.prA ((Prod.fst w), (Prod.fst (Prod.snd w))))] [] (AV.st [(W.netA false false (W.doneN (W.toN (W.netA false false n)) (3 : Int) ((W.two (Prod.fst ((Prod.fst w), (Prod.fst (Prod.snd w)))) (Prod.snd ((Prod.fst w), (Prod.fst (Prod.snd w)))) 0), (W.two (Prod.fst ((Prod.fst w), (Prod.fst (Prod.snd w)))) (Prod.snd ((Prod.fst w), (Prod.fst (Prod.snd w)))) 1)))), (AV.st [(AV.i (0 : Int)), (AV.i (0 : Int)), (AV.i (0 : Int))]), (AV.i (W.doneE (W.toN (W.netA false false n)) (3 : Int) ((W.two (Prod.fst ((Prod.fst w), (Prod.fst (Prod.snd w)))) (Prod.snd ((Prod.fst w), (Prod.fst (Prod.snd w)))) 0), (W.two (Prod.fst ((Prod.fst w), (Prod.fst (Prod.snd w)))) (Prod.snd ((Prod.fst w), (Prod.fst (Prod.snd w)))) 1))))]) [] ∧
  ((((0 : Int) ≤ (0 : Int)) ∧ ((0 : Int) < (3 : Int))) ∧
  ((((0 : Int) ≤ (1 : Int)) ∧ ((1 : Int) < (3 : Int))) ∧
  (Fun W.C W.P 25 [(W.netA false false n), (AV.i (W.thr w 0)), (AV.i (W.thr w 1))] [] (AV.st [(W.netA false false (W.healN (W.toN (W.netA false false n)) (W.thr w 0) (W.thr w 1))), (AV.st [(AV.i (0 : Int)), (AV.i (0 : Int)), (AV.i (0 : Int))]), (AV.i (W.healE (W.thr w 0) (W.thr w 1)))]) [] ∧
  (Fun W.C W.P 16 [(AV.st [(W.netA false false (W.doneN (W.toN (W.netA false false n)) (3 : Int) ((W.two (Prod.fst ((Prod.fst w), (Prod.fst (Prod.snd w)))) (Prod.snd ((Prod.fst w), (Prod.fst (Prod.snd w)))) 0), (W.two (Prod.fst ((Prod.fst w), (Prod.fst (Prod.snd w)))) (Prod.snd ((Prod.fst w), (Prod.fst (Prod.snd w)))) 1)))), (AV.st [(AV.i (0 : Int)), (AV.i (0 : Int)), (AV.i (0 : Int))]), (AV.i (W.doneE (W.toN (W.netA false false n)) (3 : Int) ((W.two (Prod.fst ((Prod.fst w), (Prod.fst (Prod.snd w)))) (Prod.snd ((Prod.fst w), (Prod.fst (Prod.snd w)))) 0), (W.two (Prod.fst ((Prod.fst w), (Prod.fst (Prod.snd w)))) (Prod.snd ((Prod.fst w), (Prod.fst (Prod.snd w)))) 1))))]), (AV.st [(W.netA false false (W.healN (W.toN (W.netA false false n)) (W.thr w 0) (W.thr w 1))), (AV.st [(AV.i (0 : Int)), (AV.i (0 : Int)), (AV.i (0 : Int))]), (AV.i (W.healE (W.thr w 0) (W.thr w 1)))])] [] (AV.sb (W.sameTB ((W.toN (W.netA false false (W.doneN (W.toN (W.netA false false n)) (3 : Int) ((W.two (Prod.fst ((Prod.fst w), (Prod.fst (Prod.snd w)))) (Prod.snd ((Prod.fst w), (Prod.fst (Prod.snd w)))) 0), (W.two (Prod.fst ((Prod.fst w), (Prod.fst (Prod.snd w)))) (Prod.snd ((Prod.fst w), (Prod.fst (Prod.snd w)))) 1))))), (((0 : Int), ((0 : Int), (0 : Int))), (W.doneE (W.toN (W.netA false false n)) (3 : Int) ((W.two (Prod.fst ((Prod.fst w), (Prod.fst (Prod.snd w)))) (Prod.snd ((Prod.fst w), (Prod.fst (Prod.snd w)))) 0), (W.two (Prod.fst ((Prod.fst w), (Prod.fst (Prod.snd w)))) (Prod.snd ((Prod.fst w), (Prod.fst (Prod.snd w)))) 1))))) ((W.toN (W.netA false false (W.healN (W.toN (W.netA false false n)) (W.thr w 0) (W.thr w 1)))), (((0 : Int), ((0 : Int), (0 : Int))), (W.healE (W.thr w 0) (W.thr w 1)))))) [] ∧
  (True ∧
  (∃ (S2 : St), Ent W.C 176 [] K (St.mk [(4, (AV.ptr 4 [])), (7, (AV.sb true)), (8, (AV.ptr 8 [])), (9, (AV.ptr 9 [])), (10, (AV.ptr 10 [])), (11, (AV.ptr 11 [])), (14, (AV.sb true)), (15, (AV.sb (W.sameTB ((W.toN (W.netA false false (W.doneN (W.toN (W.netA false false n)) (3 : Int) ((W.two (Prod.fst ((Prod.fst w), (Prod.fst (Prod.snd w)))) (Prod.snd ((Prod.fst w), (Prod.fst (Prod.snd w)))) 0), (W.two (Prod.fst ((Prod.fst w), (Prod.fst (Prod.snd w)))) (Prod.snd ((Prod.fst w), (Prod.fst (Prod.snd w)))) 1))))), (((0 : Int), ((0 : Int), (0 : Int))), (W.doneE (W.toN (W.netA false false n)) (3 : Int) ((W.two (Prod.fst ((Prod.fst w), (Prod.fst (Prod.snd w)))) (Prod.snd ((Prod.fst w), (Prod.fst (Prod.snd w)))) 0), (W.two (Prod.fst ((Prod.fst w), (Prod.fst (Prod.snd w)))) (Prod.snd ((Prod.fst w), (Prod.fst (Prod.snd w)))) 1))))) ((W.toN (W.netA false false (W.healN (W.toN (W.netA false false n)) (W.thr w 0) (W.thr w 1)))), (((0 : Int), ((0 : Int), (0 : Int))), (W.healE (W.thr w 0) (W.thr w 1)))))))] [(4, (Blk.c (AV.arr 3 1 (fun (j : Nat) => (AV.i (W.thr w j)))))), (8, (Blk.c (W.netA false false n))), (9, (Blk.c (W.prA ((Prod.fst w), (Prod.fst (Prod.snd w)))))), (10, (Blk.c (W.netA false false odd))), (11, (Blk.c (W.netA false false more)))] [4, 8, 9, 10, 11]) S2 ∧ Holds W.C W.P 176 [] K Φ (cutAt W.C w_nlm b_nlm [1, 1, 1, 1, 1, 1, 1, 1, 1, 1, 1, 1, 0] S2 (after W.C w_nlm b_nlm [1, 1, 1, 1, 1, 1, 1, 1, 1, 1, 1, 1, 0] [] lf)))))))))) ∧
 ((W.sameTB ((W.toN (W.netA false false (W.doneN (W.toN (W.netA false false n)) (2 : Int) ((W.two (Prod.fst ((Prod.fst w), (Prod.fst (Prod.snd w)))) (Prod.snd ((Prod.fst w), (Prod.fst (Prod.snd w)))) 0), (W.two (Prod.fst ((Prod.fst w), (Prod.fst (Prod.snd w)))) (Prod.snd ((Prod.fst w), (Prod.fst (Prod.snd w)))) 1))))), (((0 : Int), ((0 : Int), (0 : Int))), (W.doneE (W.toN (W.netA false false n)) (2 : Int) ((W.two (Prod.fst ((Prod.fst w), (Prod.fst (Prod.snd w)))) (Prod.snd ((Prod.fst w), (Prod.fst (Prod.snd w)))) 0), (W.two (Prod.fst ((Prod.fst w), (Prod.fst (Prod.snd w)))) (Prod.snd ((Prod.fst w), (Prod.fst (Prod.snd w)))) 1))))) ((W.toN (W.netA false false (W.sevN (W.toN (W.netA false false n)) (W.thr w 0) (W.thr w 1)))), (((0 : Int), ((0 : Int), (0 : Int))), (W.sevE (W.toN (W.netA false false n)) (W.thr w 0) (W.thr w 1))))) = false →
 (∃ (S2 : St), Ent W.C 176 [] K (St.mk [(4, (AV.ptr 4 [])), (7, (AV.sb true)), (8, (AV.ptr 8 [])), (9, (AV.ptr 9 [])), (10, (AV.ptr 10 [])), (11, (AV.ptr 11 [])), (14, (AV.sb true)), (15, (AV.v (Value.bool false)))] [(4, (Blk.c (AV.arr 3 1 (fun (j : Nat) => (AV.i (W.thr w j)))))), (8, (Blk.c (W.netA false false n))), (9, (Blk.c (W.prA ((Prod.fst w), (Prod.fst (Prod.snd w)))))), (10, (Blk.c (W.netA false false odd))), (11, (Blk.c (W.netA false false more)))] [4, 8, 9, 10, 11]) S2 ∧ Holds W.C W.P 176 [] K Φ (cutAt W.C w_nlm b_nlm [1, 1, 1, 1, 1, 1, 1, 1, 1, 1, 1, 1, 0] S2 (after W.C w_nlm b_nlm [1, 1, 1, 1, 1, 1, 1, 1, 1, 1, 1, 1, 0] [] lf))))))))))) := by kernel_rfl
theorem nlm_C13 (n odd more : Net) (K : Nat) (Φ : Ex → St → Prop) :
  (Holds C P 176 [] K Φ (cutAt C w_nlm b_nlm [1, 1, 1, 1, 1, 1, 1, 1, 1, 1, 1, 1, 0] (S_lm13 n odd more) (after C w_nlm b_nlm [1, 1, 1, 1, 1, 1, 1, 1, 1, 1, 1, 1, 0] [] lf))) =
  ((true = true →
 ((true = true →
  (Fun W.C W.P 26 [(W.netA false false n)] [] (AV.sb (W.vB (W.toN (W.netA false false n)))) [] ∧
   (True ∧
   (Fun W.C W.P 27 [(W.netA false false n)] [] (AV.sb (W.vB (W.toN (W.netA false false n)))) [] ∧
   (True ∧
   ((((W.vB (W.toN (W.netA false false n))) == (W.vB (W.toN (W.netA false false n)))) = true →
   (Fun W.C W.P 26 [(W.netA false false odd)] [] (AV.sb (W.vB (W.toN (W.netA false false odd)))) [] ∧
    (True ∧
    (Fun W.C W.P 27 [(W.netA false false odd)] [] (AV.sb (W.vB (W.toN (W.netA false false odd)))) [] ∧
    (True ∧
    ((((W.vB (W.toN (W.netA false false odd))) == (W.vB (W.toN (W.netA false false odd)))) = true →
    (Fun W.C W.P 26 [(W.netA false false more)] [] (AV.sb (W.vB (W.toN (W.netA false false more)))) [] ∧
     (True ∧
     (Fun W.C W.P 27 [(W.netA false false more)] [] (AV.sb (W.vB (W.toN (W.netA false false more)))) [] ∧
     (True ∧
     ((((W.vB (W.toN (W.netA false false more))) == (W.vB (W.toN (W.netA false false more)))) = true →
     (Φ Ex.ret (St.mk [(6, (AV.sb true)), (7, (AV.sb true)), (8, (AV.ptr 8 [])), (10, (AV.ptr 10 [])), (11, (AV.ptr 11 [])), (14, (AV.sb true)), (15, (AV.sb true))] [(8, (Blk.c (W.netA false false n))), (10, (Blk.c (W.netA false false odd))), (11, (Blk.c (W.netA false false more)))] [8, 10, 11]))) ∧
     (((W.vB (W.toN (W.netA false false more))) == (W.vB (W.toN (W.netA false false more)))) = false →
     (Φ Ex.ret (St.mk [(6, (AV.v (Value.bool false))), (7, (AV.sb true)), (8, (AV.ptr 8 [])), (10, (AV.ptr 10 [])), (11, (AV.ptr 11 [])), (14, (AV.sb true)), (15, (AV.sb true))] [(8, (Blk.c (W.netA false false n))), (10, (Blk.c (W.netA false false odd))), (11, (Blk.c (W.netA false false more)))] [8, 10, 11]))))))))) ∧
    (((W.vB (W.toN (W.netA false false odd))) == (W.vB (W.toN (W.netA false false odd)))) = false →
    (Φ Ex.ret (St.mk [(6, (AV.v (Value.bool false))), (7, (AV.sb true)), (8, (AV.ptr 8 [])), (10, (AV.ptr 10 [])), (11, (AV.ptr 11 [])), (14, (AV.sb true)), (15, (AV.sb true))] [(8, (Blk.c (W.netA false false n))), (10, (Blk.c (W.netA false false odd))), (11, (Blk.c (W.netA false false more)))] [8, 10, 11]))))))))) ∧
   (((W.vB (W.toN (W.netA false false n))) == (W.vB (W.toN (W.netA false false n)))) = false →
   (Φ Ex.ret (St.mk [(6, (AV.v (Value.bool false))), (7, (AV.sb true)), (8, (AV.ptr 8 [])), (10, (AV.ptr 10 [])), (11, (AV.ptr 11 [])), (14, (AV.sb true)), (15, (AV.sb true))] [(8, (Blk.c (W.netA false false n))), (10, (Blk.c (W.netA false false odd))), (11, (Blk.c (W.netA false false more)))] [8, 10, 11]))))))))) ∧
  (true = false →
  (Φ Ex.ret (St.mk [(6, (AV.v (Value.bool false))), (7, (AV.sb true)), (8, (AV.ptr 8 [])), (10, (AV.ptr 10 [])), (11, (AV.ptr 11 [])), (14, (AV.sb true)), (15, (AV.sb true))] [(8, (Blk.c (W.netA false false n))), (10, (Blk.c (W.netA false false odd))), (11, (Blk.c (W.netA false false more)))] [8, 10, 11]))))) ∧
 (true = false →
 (Φ Ex.ret (St.mk [(6, (AV.v (Value.bool false))), (7, (AV.sb true)), (8, (AV.ptr 8 [])), (10, (AV.ptr 10 [])), (11, (AV.ptr 11 [])), (14, (AV.sb true)), (15, (AV.sb true))] [(8, (Blk.c (W.netA false false n))), (10, (Blk.c (W.netA false false odd))), (11, (Blk.c (W.netA false false more)))] [8, 10, 11])))) := by kernel_rfl
theorem toN_D (n : Net) : toN (netD n) = n := toN_net false false n
theorem sameTB_self (t : Net × Pk × Int) : sameTB t t = true := by unfold sameTB; rw [same_self]; simp
theorem beq_self' (b : Bool) : (b == b) = true := by cases b <;> rfl
theorem VN.lens1 {n : Net} (h : VN n) (x : Pk) (y : PI) : (⟨n.fly ++ [x], n.cuts ++ [y], n.next⟩ : Net).fly.length < 2 ^ 40 ∧ (⟨n.fly ++ [x], n.cuts ++ [y], n.next⟩ : Net).cuts.length < 2 ^ 40 := by
  obtain ⟨_, _, _, _, h5, h6, _⟩ := h
  simp; omega
theorem nlm_fun (ex : Bool) (l : List Tri) (w : In3) (x : Pk) : Fun C P F_nlm [dTri ex l, thA w, pkA x] [] (.sb true) [] := by
  refine in_nlm (W := w_nlm) rfl 0 (by simp) rfl (fun id h => absurd rfl h) ?_
  refine of_eq (nlm_A ex l w x 0 _) ?_
  have el : tlL l = l := toTL_A l
  rw [el]
  refine ⟨sanity_fun, trivial, made_fun ex l, by simp, ?_⟩
  have hv0 := VN.made l 20
  obtain ⟨n, hn⟩ : ∃ n, n = madeN l := ⟨_, rfl⟩
  have hv : VN n := hn ▸ hv0
  rw [← hn]
  refine cut_ok (S2 := S_lm3 w x n) (ent_of [(4, 4), (5, 5), (8, 8)] rfl (tm_cons rfl (sm_ptr rfl) (tm_cons rfl (sm_ptr rfl) (tm_cons rfl (sm_same rfl) (tm_cons rfl (sm_ptr rfl) tm_nil)))) (hp_cons rfl rfl (sm_same rfl) (hp_cons rfl rfl (sm_same rfl) (hp_cons rfl rfl (sm_same rfl) hp_nil)))) ?_
  obtain ⟨odd, ho⟩ : ∃ odd : Net, odd = ⟨n.fly ++ [x], n.cuts ++ [(w.1, w.2.1)], n.next⟩ := ⟨_, rfl⟩
  obtain ⟨more, hm⟩ : ∃ more : Net, more = ⟨n.fly, n.cuts, w.2.2⟩ := ⟨_, rfl⟩
  have hl := hv.lens
  have hl2 := hv.2.2.2.2
  have lo : odd.fly.length < 2 ^ 40 ∧ odd.cuts.length < 2 ^ 40 := ho ▸ hv.lens1 x _
  have lm : more.fly.length < 2 ^ 40 ∧ more.cuts.length < 2 ^ 40 := hm ▸ hl
  refine of_eq (nlm_C3 w x n 0 _) ?_
  simp only [Nat.zero_add]
  refine ⟨(by first | omega | decide | (unfold I64; omega)), (by first | omega | decide | (unfold I64; omega)), ⟨by simp, by simp, fun j hj => by match j, hj with | 0, _ => exact ⟨rfl, rfl⟩ | 1, _ => exact ⟨rfl, rfl⟩⟩, by simp, by simp, by simp, (by first | omega | decide | (unfold I64; omega)), (by first | omega | decide | (unfold I64; omega)), by simp, by simp, (by first | omega | decide | (unfold I64; omega)), (by first | omega | decide | (unfold I64; omega)), by simp, (by first | omega | decide | (unfold I64; omega)), cut_ok (S2 := S_lm8 w n odd more) ((ent_freeze _ [31, 39]).trans (ent_of [(4, 4), (8, 8), (9, 9), (10, 10), (11, 11)] rfl (tm_cons rfl (sm_ptr rfl) (tm_cons rfl (sm_same rfl) (tm_cons rfl (sm_ptr rfl) (tm_cons rfl (sm_ptr rfl) (tm_cons rfl (sm_ptr rfl) (tm_cons rfl (sm_ptr rfl) tm_nil)))))) (hp_cons rfl rfl (sm_same rfl) (hp_cons rfl rfl (sm_same rfl) (hp_cons rfl rfl ?_ (hp_cons rfl rfl ?_ (hp_cons rfl rfl ?_ hp_nil))))))) ?_⟩
  · refine sm_arr fun j hj => ?_
    match j, hj with
    | 0, _ => rfl
    | 1, _ => rfl
  · rw [ho]
    refine sm_st ⟨sm_dat' (by simp) (by simp) fun k hk => ?_, .inr ⟨by simp, by simp, .inr rfl, fun k hk => ?_⟩, sm_int rfl, trivial⟩
    · rw [Nat.zero_add, kAt_app rfl hk]
      unfold cat
      by_cases h : k < n.fly.length
      · rw [if_pos h, if_pos h]
      · rw [if_neg h, if_neg h, show k - n.fly.length = 0 by omega]; rfl
    · dsimp only
      rw [Nat.zero_add, pAt_app rfl]
      unfold cat
      by_cases h : k < n.cuts.length
      · left
        rw [if_pos h, if_neg (by omega)]
      · right
        rw [if_neg h, if_pos (by omega), show k - n.cuts.length = 0 by omega]
        refine ⟨rfl, rfl, fun j hj => .inl ?_⟩
        match j, hj with
        | 0, _ => rfl
        | 1, _ => rfl
  · exact sm_eq rfl (by rw [hm]; rfl)
  refine of_eq (nlm_C8 w n odd more 0 _) ?_
  simp only [toN_D]
  refine ⟨(by first | omega | decide | (unfold I64; omega)), (by first | omega | decide | (unfold I64; omega)), sent_fun hv _ _, (by first | omega | decide | (unfold I64; omega)), (by first | omega | decide | (unfold I64; omega)), rsend_fun hv _ _, by simp, by simp, cut_ok (S2 := S_lm9 w n odd more (sendN n w.1 w.2.1, sendI n w.1 w.2.1, sendE n w.1 w.2.1)) (ent_of [(4, 4), (8, 8), (9, 9), (10, 10), (11, 11), (12, 12), (13, 13)] rfl (tm_cons rfl (sm_ptr rfl) (tm_cons rfl (sm_same rfl) (tm_cons rfl (sm_ptr rfl) (tm_cons rfl (sm_ptr rfl) (tm_cons rfl (sm_ptr rfl) (tm_cons rfl (sm_ptr rfl) (tm_cons rfl (sm_ptr rfl) (tm_cons rfl (sm_ptr rfl) tm_nil)))))))) (hp_cons rfl rfl (sm_same rfl) (hp_cons rfl rfl (sm_same rfl) (hp_cons rfl rfl (sm_same rfl) (hp_cons rfl rfl (sm_same rfl) (hp_cons rfl rfl (sm_same rfl) (hp_cons rfl rfl (sm_same rfl) (hp_cons rfl rfl (sm_same rfl) hp_nil)))))))) ?_⟩
  have va := hv.send w.1 w.2.1
  obtain ⟨a, ha⟩ : ∃ a : Net × Int × Int, a = (sendN n w.1 w.2.1, sendI n w.1 w.2.1, sendE n w.1 w.2.1) := ⟨_, rfl⟩
  rw [← ha]
  have va : VN a.1 := ha ▸ va
  refine of_eq (nlm_C9 w n odd more a 0 _) ?_
  simp only [toN_D]
  have vt := hv.take (thr w 2)
  refine ⟨same_ok va, trivial, fun q => (nt_no (same_self _) q).elim, fun _ => ⟨fun q => (ne_no rfl q).elim, fun _ => ⟨fun q => (ne_no rfl q).elim, fun _ => ⟨(by first | omega | decide | (unfold I64; omega)), taken_fun hv _, (by first | omega | decide | (unfold I64; omega)), rtake_fun hv _, sameT_fun _ _ _ _ _ _ vt.lens.1 vt.lens.2, trivial, fun q => (nt_no (sameTB_self _) q).elim, fun _ => ⟨(by first | omega | decide | (unfold I64; omega)), (by first | omega | decide | (unfold I64; omega)), reach_fun hv _ _, trivial, (by first | omega | decide | (unfold I64; omega)), (by first | omega | decide | (unfold I64; omega)), rreach_fun hv _ _, trivial, fun q => (nt_no (beq_self' _) q).elim, fun _ => ?_⟩⟩⟩⟩⟩
  refine cut_ok (S2 := S_lm8 w n odd more) (ent_of [(4, 4), (8, 8), (9, 9), (10, 10), (11, 11)] rfl (tm_cons rfl (sm_ptr rfl) (tm_cons rfl (sm_same rfl) (tm_cons rfl (sm_ptr rfl) (tm_cons rfl (sm_ptr rfl) (tm_cons rfl (sm_ptr rfl) (tm_cons rfl (sm_ptr rfl) tm_nil)))))) (hp_cons rfl rfl (sm_same rfl) (hp_cons rfl rfl (sm_same rfl) (hp_cons rfl rfl (sm_same rfl) (hp_cons rfl rfl (sm_same rfl) (hp_cons rfl rfl (sm_same rfl) hp_nil)))))) ?_
  refine of_eq (nlm_C11 w n odd more 0 _) ?_
  simp only [toN_D]
  have vlo := (hv.done 0 (thr w 2, 0)).lens
  have vdb := (hv.done 1 (thr w 2, 0)).lens
  refine ⟨(by first | omega | decide | (unfold I64; omega)), done_pair hv 0 _ _, (by first | omega | decide | (unfold I64; omega)), rlose_fun hv _, sameT_fun _ (loseN n (thr w 2)) (0, 0, 0) (0, 0, 0) _ _ vlo.1 vlo.2, trivial, fun _ => ⟨(by first | omega | decide | (unfold I64; omega)), done_pair hv 1 _ _, (by first | omega | decide | (unfold I64; omega)), rdouble_fun hv _, sameT_fun _ (dblN n (thr w 2)) (0, 0, 0) (0, 0, 0) _ _ vdb.1 vdb.2, trivial, ?_⟩, fun q => (tf_no (sameTB_self (loseN n (thr w 2), (0, 0, 0), loseE n (thr w 2))) q).elim⟩
  refine cut_ok (S2 := S_lm12 w n odd more) (ent_of [(4, 4), (8, 8), (9, 9), (10, 10), (11, 11)] rfl (tm_cons rfl (sm_ptr rfl) (tm_cons rfl (sm_same rfl) (tm_cons rfl (sm_ptr rfl) (tm_cons rfl (sm_ptr rfl) (tm_cons rfl (sm_ptr rfl) (tm_cons rfl (sm_ptr rfl) (tm_cons rfl (sm_sb (sameTB_self (dblN n (thr w 2), (0, 0, 0), dblE n (thr w 2)))) tm_nil))))))) (hp_cons rfl rfl (sm_same rfl) (hp_cons rfl rfl (sm_same rfl) (hp_cons rfl rfl (sm_same rfl) (hp_cons rfl rfl (sm_same rfl) (hp_cons rfl rfl (sm_same rfl) hp_nil)))))) ?_
  refine of_eq (nlm_C12 w n odd more 0 _) ?_
  simp only [toN_D]
  have vsv := (hv.done 2 (w.1, w.2.1)).lens
  have vhl := (hv.done 3 (w.1, w.2.1)).lens
  refine ⟨done_fun hv 2 (w.1, w.2.1), (by first | omega | decide | (unfold I64; omega)), (by first | omega | decide | (unfold I64; omega)), rsever_fun hv _ _, sameT_fun (doneN n 2 (w.1, w.2.1)) (sevN n w.1 w.2.1) (0, 0, 0) (0, 0, 0) (doneE n 2 (w.1, w.2.1)) (sevE n w.1 w.2.1) vsv.1 vsv.2, trivial, fun _ => ⟨done_fun hv 3 (w.1, w.2.1), (by first | omega | decide | (unfold I64; omega)), (by first | omega | decide | (unfold I64; omega)), rheal_fun hv _ _, sameT_fun (doneN n 3 (w.1, w.2.1)) (healN n w.1 w.2.1) (0, 0, 0) (0, 0, 0) (doneE n 3 (w.1, w.2.1)) (healE w.1 w.2.1) vhl.1 vhl.2, trivial, ?_⟩, fun q => (tf_no (sameTB_self (sevN n w.1 w.2.1, (0, 0, 0), sevE n w.1 w.2.1)) q).elim⟩
  refine cut_ok (S2 := S_lm13 n odd more) (ent_of [(8, 8), (10, 10), (11, 11)] rfl (tm_cons rfl (sm_same rfl) (tm_cons rfl (sm_ptr rfl) (tm_cons rfl (sm_ptr rfl) (tm_cons rfl (sm_ptr rfl) (tm_cons rfl (sm_same rfl) (tm_cons rfl (sm_sb (sameTB_self (healN n w.1 w.2.1, (0, 0, 0), healE w.1 w.2.1))) tm_nil)))))) (hp_cons rfl rfl (sm_same rfl) (hp_cons rfl rfl (sm_same rfl) (hp_cons rfl rfl (sm_same rfl) hp_nil)))) ?_
  refine of_eq (nlm_C13 n odd more 0 _) ?_
  rw [toN_D, toN_D, toN_D]
  exact ⟨fun _ => ⟨fun _ => ⟨valid_fun n hl.1 hl.2, trivial, rvalid_fun n hl.1 hl.2, trivial, fun _ => ⟨valid_fun odd lo.1 lo.2, trivial, rvalid_fun odd lo.1 lo.2, trivial, fun _ => ⟨valid_fun more lm.1 lm.2, trivial, rvalid_fun more lm.1 lm.2, trivial, fun _ => post_tmp rfl (sm_sb rfl), fun q => (tf_no (beq_self' _) q).elim⟩, fun q => (tf_no (beq_self' _) q).elim⟩, fun q => (tf_no (beq_self' _) q).elim⟩, fun q => by cases q⟩, fun q => by cases q⟩
theorem typed_three {n : Nat} {x : AV} (h : Typed C.tt (n + 2) 23 x) : ∃ w : In3, simR some x (thA w) := by
  obtain ⟨z, hz, f, rfl, hf⟩ := typed_i64s (e := 3) (m := 3) rfl rfl rfl h
  refine ⟨(z 0, z 1, z 2), .inr ⟨rfl, rfl, fun i hi => .inl ?_⟩⟩
  match i, hi with
  | 0, _ => exact hf 0 (by decide)
  | 1, _ => exact hf 1 (by decide)
  | 2, _ => exact hf 2 (by decide)
theorem typed_pk {x : AV} (h : Typed C.tt 6 25 x) : ∃ p : Pk, x = pkA p := by
  have hd : (C.tt 25).d = .struct [(3, 0), (3, 1), (3, 2)] := by kernel_rfl
  have hd3 : (C.tt 3).d = .int .i64 := by kernel_rfl
  unfold Typed at h
  simp only [hd] at h
  obtain ⟨xs, rfl, hl, hx⟩ := h
  match xs, hl with
  | [a, b, c], _ =>
    obtain ⟨p, rfl, _⟩ := typed_i64 (n := 4) hd3 (hx 0 3 0 a rfl rfl)
    obtain ⟨q, rfl, _⟩ := typed_i64 (n := 4) hd3 (hx 1 3 1 b rfl rfl)
    obtain ⟨r, rfl, _⟩ := typed_i64 (n := 4) hd3 (hx 2 3 2 c rfl rfl)
    exact ⟨(p, q, r), rfl⟩
theorem nlm_law {x0 x1 x2 : AV} (h0 : Typed C.tt 6 22 x0) (h1 : Typed C.tt 6 23 x1) (h2 : Typed C.tt 6 25 x2) : Fun C P F_nlm [x0, x1, x2] [] (.sb true) [] := by
  obtain ⟨l, ex, _, _, s0⟩ := typed_tris h0
  obtain ⟨w, s1⟩ := typed_three h1
  obtain ⟨x, rfl⟩ := typed_pk h2
  exact (nlm_fun ex l w x).sim ⟨s0, s1, sm_same rfl, trivial⟩ trivial
end Go.Bu.W

