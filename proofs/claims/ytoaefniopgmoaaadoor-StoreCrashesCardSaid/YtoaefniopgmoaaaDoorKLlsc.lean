/- After a crash, a cell is as it was before, or as one of the jobs for it left it. -/
import Derived.Test.YtoaefniopgmoaaaDoorK25
namespace Go.Bu.W
open Sp
def w_lsc : Way := wayN2 [0, 1, 4, 5, 6, 7, 8, 9, 10, 11, 12, 13, 14, 15, 30, 32, 36, 58, 88, 105, 111] 126 [3,4,6,14,15,20,23,27]
def mtJ (j : Jb) (i s : Int) : Bool := (j.c.i == i) && (j.dr || (j.c.s == s))
def fndC (L : List Cl) (d : Dk) (i s : Int) : Nat → Bool
  | 0 => sgB L d.l i s
  | n + 1 => fndC L d i s n || (mtJ (jbAt d.q n) i s && sgB L (perf [] (jbAt d.q n)) i s)
def S_lsc3 (ez : Bool) (dn : List Bool) (d : Dk) : St := { tm := [(1, bA ez dn), (5, .sb true), (6, .ptr 6 [])], hp := [(6, .c (dkA false false d))], seen := [6] }
def S_lsc4 (d c : Dk) : St := { tm := [(5, .sb true), (6, .ptr 6 []), (7, .ptr 7 [])], hp := [(6, .c (dkA false false d)), (7, .c (dkA false false c))], seen := [6, 7] }
def I_lsc0 (d c : Dk) (i : Nat) : St := { tm := [(5, .sb true), (6, .ptr 6 []), (7, .ptr 7 []), (8, .i i)], hp := [(6, .c (dkA false false d)), (7, .c (dkA false false c))], seen := [6, 7] }
def I_lsc1 (d c : Dk) (i k : Nat) : St := { tm := [(5, .sb true), (6, .ptr 6 []), (7, .ptr 7 []), (8, .i i), (9, .i k)], hp := [(6, .c (dkA false false d)), (7, .c (dkA false false c))], seen := [6, 7] }
def S_lsc14 (d c : Dk) (i k : Nat) (id : Int) (gb : List Nat) (ge : Int) : St := { tm := [(5, .sb true), (6, .ptr 6 []), (7, .ptr 7 []), (8, .i i), (9, .i k), (10, .i id), (11, .ptr 11 [])], hp := [(6, .c (dkA false false d)), (7, .c (dkA false false c)), (11, .c (gA gb ge))], seen := [6, 7, 11] }
def S_lsc15 (d c : Dk) (i k : Nat) (id : Int) (gb : List Nat) (ge : Int) (b : Bool) : St := { tm := [(5, .sb true), (6, .ptr 6 []), (7, .ptr 7 []), (8, .i i), (9, .i k), (10, .i id), (11, .ptr 11 []), (12, .sb b)], hp := [(6, .c (dkA false false d)), (7, .c (dkA false false c)), (11, .c (gA gb ge))], seen := [6, 7, 11] }
def I_lsc2 (d c : Dk) (i k : Nat) (id : Int) (gb : List Nat) (ge : Int) (F : Nat → Bool) (j : Nat) : St := { tm := [(5, .sb true), (6, .ptr 6 []), (7, .ptr 7 []), (8, .i i), (9, .i k), (10, .i id), (11, .ptr 11 []), (12, .sb (F j)), (13, .i j)], hp := [(6, .c (dkA false false d)), (7, .c (dkA false false c)), (11, .c (gA gb ge))], seen := [6, 7, 11] }
def S_lsc20 (d c : Dk) (i k : Nat) : St := { tm := [(5, .sb true), (6, .ptr 6 []), (7, .ptr 7 []), (8, .i i), (9, .i k), (12, .sb true)], hp := [(6, .c (dkA false false d)), (7, .c (dkA false false c))], seen := [6, 7] }
abbrev anB (n : Nat) : AV := .arr n 1 (fun _ => .v (.bool true))
def S_lsc23 (d : Dk) : St := { tm := [(5, .sb true), (6, .ptr 6 []), (14, .sl 14 [] 0 0 0 false 1)], hp := [(6, .c (dkA false false d)), (14, .c (anB 0))], seen := [6, 14] }
def I_lsc3 (d : Dk) (n : Nat) : St := { tm := [(5, .sb true), (6, .ptr 6 []), (14, .sl 14 [] 0 n n false 1), (15, .i n)], hp := [(6, .c (dkA false false d)), (14, .c (anB n))], seen := [6, 14] }
def S_lsc27 (d : Dk) (l : List Bool) : St := { tm := [(5, .sb true), (6, .ptr 6 []), (14, bA false l)], hp := [(6, .c (dkA false false d))], seen := [6] }
theorem lsc_A (ea : Bool) (e3 e4 : Nat → Bool) (l : List Rw) (ez : Bool) (dn : List Bool) {D : Dom} (K : Nat) (Φ : Ex → St → Prop) :
 (Holds C P 126 D K Φ (vc C w_lsc b_lsc [] (start [rwsA ea e3 e4 l, bA ez dn] []) lf)) =
 (Fun C P 11 [] [] (AV.sb true) [] ∧
 (True ∧
 (Fun C P 20 [(AV.dat (List.length l) ea 5 (fun (i : Nat) => (rwA (e3 i) (e4 i) (rwAt l i)))), (AV.i (12 : Int))] [] (AV.st [(AV.dat (List.length (Dk.l (madeN (toRws (AV.dat (List.length l) ea 5 (fun (i : Nat) => (rwA (e3 i) (e4 i) (rwAt l i))))) (Min.min 12 (List.length (toRws (AV.dat (List.length l) ea 5 (fun (i : Nat) => (rwA (e3 i) (e4 i) (rwAt l i)))))))))) false 35 (fun (i : Nat) => (AV.st [(AV.i (Cl.i (clAt (Dk.l (madeN (toRws (AV.dat (List.length l) ea 5 (fun (i1 : Nat) => (rwA (e3 i1) (e4 i1) (rwAt l i1))))) (Min.min 12 (List.length (toRws (AV.dat (List.length l) ea 5 (fun (i1 : Nat) => (rwA (e3 i1) (e4 i1) (rwAt l i1))))))))) i))), (AV.i (Cl.s (clAt (Dk.l (madeN (toRws (AV.dat (List.length l) ea 5 (fun (i1 : Nat) => (rwA (e3 i1) (e4 i1) (rwAt l i1))))) (Min.min 12 (List.length (toRws (AV.dat (List.length l) ea 5 (fun (i1 : Nat) => (rwA (e3 i1) (e4 i1) (rwAt l i1))))))))) i))), (AV.dat (List.length (Cl.b (clAt (Dk.l (madeN (toRws (AV.dat (List.length l) ea 5 (fun (i1 : Nat) => (rwA (e3 i1) (e4 i1) (rwAt l i1))))) (Min.min 12 (List.length (toRws (AV.dat (List.length l) ea 5 (fun (i1 : Nat) => (rwA (e3 i1) (e4 i1) (rwAt l i1))))))))) i))) false 1 (rowL (Cl.b (clAt (Dk.l (madeN (toRws (AV.dat (List.length l) ea 5 (fun (i1 : Nat) => (rwA (e3 i1) (e4 i1) (rwAt l i1))))) (Min.min 12 (List.length (toRws (AV.dat (List.length l) ea 5 (fun (i1 : Nat) => (rwA (e3 i1) (e4 i1) (rwAt l i1))))))))) i)))), (hA (Cl.h (clAt (Dk.l (madeN (toRws (AV.dat (List.length l) ea 5 (fun (i2 : Nat) => (rwA (e3 i2) (e4 i2) (rwAt l i2))))) (Min.min 12 (List.length (toRws (AV.dat (List.length l) ea 5 (fun (i2 : Nat) => (rwA (e3 i2) (e4 i2) (rwAt l i2))))))))) i)))]))), (AV.dat (List.length (Dk.q (madeN (toRws (AV.dat (List.length l) ea 5 (fun (i : Nat) => (rwA (e3 i) (e4 i) (rwAt l i))))) (Min.min 12 (List.length (toRws (AV.dat (List.length l) ea 5 (fun (i : Nat) => (rwA (e3 i) (e4 i) (rwAt l i)))))))))) false 36 (fun (i : Nat) => (AV.st [(AV.sb (Jb.dr (jbAt (Dk.q (madeN (toRws (AV.dat (List.length l) ea 5 (fun (i1 : Nat) => (rwA (e3 i1) (e4 i1) (rwAt l i1))))) (Min.min 12 (List.length (toRws (AV.dat (List.length l) ea 5 (fun (i1 : Nat) => (rwA (e3 i1) (e4 i1) (rwAt l i1))))))))) i))), (AV.st [(AV.i (Cl.i (Jb.c (jbAt (Dk.q (madeN (toRws (AV.dat (List.length l) ea 5 (fun (i1 : Nat) => (rwA (e3 i1) (e4 i1) (rwAt l i1))))) (Min.min 12 (List.length (toRws (AV.dat (List.length l) ea 5 (fun (i1 : Nat) => (rwA (e3 i1) (e4 i1) (rwAt l i1))))))))) i)))), (AV.i (Cl.s (Jb.c (jbAt (Dk.q (madeN (toRws (AV.dat (List.length l) ea 5 (fun (i1 : Nat) => (rwA (e3 i1) (e4 i1) (rwAt l i1))))) (Min.min 12 (List.length (toRws (AV.dat (List.length l) ea 5 (fun (i1 : Nat) => (rwA (e3 i1) (e4 i1) (rwAt l i1))))))))) i)))), (AV.dat (List.length (Cl.b (Jb.c (jbAt (Dk.q (madeN (toRws (AV.dat (List.length l) ea 5 (fun (i1 : Nat) => (rwA (e3 i1) (e4 i1) (rwAt l i1))))) (Min.min 12 (List.length (toRws (AV.dat (List.length l) ea 5 (fun (i1 : Nat) => (rwA (e3 i1) (e4 i1) (rwAt l i1))))))))) i)))) false 1 (rowL (Cl.b (Jb.c (jbAt (Dk.q (madeN (toRws (AV.dat (List.length l) ea 5 (fun (i1 : Nat) => (rwA (e3 i1) (e4 i1) (rwAt l i1))))) (Min.min 12 (List.length (toRws (AV.dat (List.length l) ea 5 (fun (i1 : Nat) => (rwA (e3 i1) (e4 i1) (rwAt l i1))))))))) i))))), (hA (Cl.h (Jb.c (jbAt (Dk.q (madeN (toRws (AV.dat (List.length l) ea 5 (fun (i2 : Nat) => (rwA (e3 i2) (e4 i2) (rwAt l i2))))) (Min.min 12 (List.length (toRws (AV.dat (List.length l) ea 5 (fun (i2 : Nat) => (rwA (e3 i2) (e4 i2) (rwAt l i2))))))))) i))))])])))]) [] ∧
 ((((true = true) ∧ (true = true)) ∧ (((true = true) ∧ (true = true)) ∧ True)) ∧
 (∃ (S2 : St), Ent C 126 D K (St.mk [(0, (AV.dat (List.length l) ea 5 (fun (i : Nat) => (rwA (e3 i) (e4 i) (rwAt l i))))), (1, (bA ez dn)), (4, (AV.v (Value.bool false))), (5, (AV.sb true)), (6, (AV.ptr 6 []))] [(6, (Blk.c (AV.st [(AV.dat (List.length (Dk.l (madeN (toRws (AV.dat (List.length l) ea 5 (fun (i : Nat) => (rwA (e3 i) (e4 i) (rwAt l i))))) (Min.min 12 (List.length (toRws (AV.dat (List.length l) ea 5 (fun (i : Nat) => (rwA (e3 i) (e4 i) (rwAt l i)))))))))) false 35 (fun (i : Nat) => (AV.st [(AV.i (Cl.i (clAt (Dk.l (madeN (toRws (AV.dat (List.length l) ea 5 (fun (i1 : Nat) => (rwA (e3 i1) (e4 i1) (rwAt l i1))))) (Min.min 12 (List.length (toRws (AV.dat (List.length l) ea 5 (fun (i1 : Nat) => (rwA (e3 i1) (e4 i1) (rwAt l i1))))))))) i))), (AV.i (Cl.s (clAt (Dk.l (madeN (toRws (AV.dat (List.length l) ea 5 (fun (i1 : Nat) => (rwA (e3 i1) (e4 i1) (rwAt l i1))))) (Min.min 12 (List.length (toRws (AV.dat (List.length l) ea 5 (fun (i1 : Nat) => (rwA (e3 i1) (e4 i1) (rwAt l i1))))))))) i))), (AV.dat (List.length (Cl.b (clAt (Dk.l (madeN (toRws (AV.dat (List.length l) ea 5 (fun (i1 : Nat) => (rwA (e3 i1) (e4 i1) (rwAt l i1))))) (Min.min 12 (List.length (toRws (AV.dat (List.length l) ea 5 (fun (i1 : Nat) => (rwA (e3 i1) (e4 i1) (rwAt l i1))))))))) i))) false 1 (rowL (Cl.b (clAt (Dk.l (madeN (toRws (AV.dat (List.length l) ea 5 (fun (i1 : Nat) => (rwA (e3 i1) (e4 i1) (rwAt l i1))))) (Min.min 12 (List.length (toRws (AV.dat (List.length l) ea 5 (fun (i1 : Nat) => (rwA (e3 i1) (e4 i1) (rwAt l i1))))))))) i)))), (hA (Cl.h (clAt (Dk.l (madeN (toRws (AV.dat (List.length l) ea 5 (fun (i2 : Nat) => (rwA (e3 i2) (e4 i2) (rwAt l i2))))) (Min.min 12 (List.length (toRws (AV.dat (List.length l) ea 5 (fun (i2 : Nat) => (rwA (e3 i2) (e4 i2) (rwAt l i2))))))))) i)))]))), (AV.dat (List.length (Dk.q (madeN (toRws (AV.dat (List.length l) ea 5 (fun (i : Nat) => (rwA (e3 i) (e4 i) (rwAt l i))))) (Min.min 12 (List.length (toRws (AV.dat (List.length l) ea 5 (fun (i : Nat) => (rwA (e3 i) (e4 i) (rwAt l i)))))))))) false 36 (fun (i : Nat) => (AV.st [(AV.sb (Jb.dr (jbAt (Dk.q (madeN (toRws (AV.dat (List.length l) ea 5 (fun (i1 : Nat) => (rwA (e3 i1) (e4 i1) (rwAt l i1))))) (Min.min 12 (List.length (toRws (AV.dat (List.length l) ea 5 (fun (i1 : Nat) => (rwA (e3 i1) (e4 i1) (rwAt l i1))))))))) i))), (AV.st [(AV.i (Cl.i (Jb.c (jbAt (Dk.q (madeN (toRws (AV.dat (List.length l) ea 5 (fun (i1 : Nat) => (rwA (e3 i1) (e4 i1) (rwAt l i1))))) (Min.min 12 (List.length (toRws (AV.dat (List.length l) ea 5 (fun (i1 : Nat) => (rwA (e3 i1) (e4 i1) (rwAt l i1))))))))) i)))), (AV.i (Cl.s (Jb.c (jbAt (Dk.q (madeN (toRws (AV.dat (List.length l) ea 5 (fun (i1 : Nat) => (rwA (e3 i1) (e4 i1) (rwAt l i1))))) (Min.min 12 (List.length (toRws (AV.dat (List.length l) ea 5 (fun (i1 : Nat) => (rwA (e3 i1) (e4 i1) (rwAt l i1))))))))) i)))), (AV.dat (List.length (Cl.b (Jb.c (jbAt (Dk.q (madeN (toRws (AV.dat (List.length l) ea 5 (fun (i1 : Nat) => (rwA (e3 i1) (e4 i1) (rwAt l i1))))) (Min.min 12 (List.length (toRws (AV.dat (List.length l) ea 5 (fun (i1 : Nat) => (rwA (e3 i1) (e4 i1) (rwAt l i1))))))))) i)))) false 1 (rowL (Cl.b (Jb.c (jbAt (Dk.q (madeN (toRws (AV.dat (List.length l) ea 5 (fun (i1 : Nat) => (rwA (e3 i1) (e4 i1) (rwAt l i1))))) (Min.min 12 (List.length (toRws (AV.dat (List.length l) ea 5 (fun (i1 : Nat) => (rwA (e3 i1) (e4 i1) (rwAt l i1))))))))) i))))), (hA (Cl.h (Jb.c (jbAt (Dk.q (madeN (toRws (AV.dat (List.length l) ea 5 (fun (i2 : Nat) => (rwA (e3 i2) (e4 i2) (rwAt l i2))))) (Min.min 12 (List.length (toRws (AV.dat (List.length l) ea 5 (fun (i2 : Nat) => (rwA (e3 i2) (e4 i2) (rwAt l i2))))))))) i))))])])))])))] [6]) S2 ∧ Holds C P 126 D K Φ (cutAt C w_lsc b_lsc [1, 1, 1, 0] S2 (after C w_lsc b_lsc [1, 1, 1, 0] [] lf))))))) := by kernel_rfl
theorem lsc_C3 (ez : Bool) (dn : List Bool) (d : Dk) {D : Dom} (K : Nat) (Φ : Ex → St → Prop) :
 (Holds C P 126 D K Φ (cutAt C w_lsc b_lsc [1, 1, 1, 0] (S_lsc3 ez dn d) (after C w_lsc b_lsc [1, 1, 1, 0] [] lf))) =
 (Fun C P 17 [(dkA false false d), (bA ez dn)] [] (AV.st [(csA false (Dk.l (crashD (toDk (dkA false false d)) (bLs (bA ez dn))))), (jsA false ([] : List Jb))]) [] ∧
 ((((true = true) ∧ (true = true)) ∧ (((true = true) ∧ (true = true)) ∧ True)) ∧
 (∃ (S2 : St), Ent C 126 D K (St.mk [(1, (bA ez dn)), (5, (AV.sb true)), (6, (AV.ptr 6 [])), (7, (AV.ptr 7 []))] [(6, (Blk.c (dkA false false d))), (7, (Blk.c (AV.st [(csA false (Dk.l (crashD (toDk (dkA false false d)) (bLs (bA ez dn))))), (jsA false ([] : List Jb))])))] [7, 6]) S2 ∧ Holds C P 126 D K Φ (cutAt C w_lsc b_lsc [1, 1, 1, 1, 0, 0] S2 (after C w_lsc b_lsc [1, 1, 1, 1, 0, 0] [] lf))))) := by kernel_rfl
theorem lsc_C4 (d c : Dk) {D : Dom} (K : Nat) (Φ : Ex → St → Prop) :
 (Holds C P 126 D K Φ (cutAt C w_lsc b_lsc [1, 1, 1, 1, 0, 0] (S_lsc4 d c) (after C w_lsc b_lsc [1, 1, 1, 1, 0, 0] [] lf))) =
 (Fun C P 18 [(dkA false false c)] [] (AV.sb (vldB (toDk (dkA false false c)))) [] ∧
 (True ∧
 (((! (vldB (toDk (dkA false false c)))) = true →
 (Φ Ex.ret (St.mk [(4, (AV.v (Value.bool false))), (5, (AV.sb true)), (6, (AV.ptr 6 [])), (7, (AV.ptr 7 [])), (30, (AV.v (Value.bool true)))] [(6, (Blk.c (dkA false false d))), (7, (Blk.c (dkA false false c)))] [6, 7]))) ∧
 ((! (vldB (toDk (dkA false false c)))) = false →
 (((decide ((((List.length (Dk.q c)) : Nat) : Int) > (0 : Int))) = true →
 (Φ Ex.ret (St.mk [(4, (AV.v (Value.bool false))), (5, (AV.sb true)), (6, (AV.ptr 6 [])), (7, (AV.ptr 7 [])), (30, (AV.v (Value.bool true)))] [(6, (Blk.c (dkA false false d))), (7, (Blk.c (dkA false false c)))] [6, 7]))) ∧
 ((decide ((((List.length (Dk.q c)) : Nat) : Int) > (0 : Int))) = false →
 (∃ (S2 : St), Ent C 126 D K (St.mk [(5, (AV.sb true)), (6, (AV.ptr 6 [])), (7, (AV.ptr 7 [])), (30, (AV.v (Value.bool false)))] [(6, (Blk.c (dkA false false d))), (7, (Blk.c (dkA false false c)))] [6, 7]) S2 ∧ Holds C P 126 D K Φ (cutAt C w_lsc b_lsc [1, 1, 1, 1, 1, 0, 0] S2 (after C w_lsc b_lsc [1, 1, 1, 1, 1, 0, 0] [] lf))))))))) := by kernel_rfl
theorem lsc_C6 (d c : Dk) {D : Dom} (K : Nat) (Φ : Ex → St → Prop) :
 (Holds C P 126 D K Φ (cutAt C w_lsc b_lsc [1, 1, 1, 1, 1, 0, 0] (S_lsc4 d c) (after C w_lsc b_lsc [1, 1, 1, 1, 1, 0, 0] [] lf))) =
 (LoopOK C P 126 D K (bodyAt b_lsc [1, 1, 1, 1, 1, 0, 1, 0]) (St.mk [(5, (AV.sb true)), (6, (AV.ptr 6 [])), (7, (AV.ptr 7 [])), (8, (AV.i (0 : Int)))] [(6, (Blk.c (dkA false false d))), (7, (Blk.c (dkA false false c)))] [6, 7]) (fun (e : Ex) (S' : St) => Holds C P 126 D K Φ (after C w_lsc b_lsc [1, 1, 1, 1, 1, 0, 1, 0] [] lf e S'))) := by kernel_rfl
noncomputable abbrev bd_lsc_0 : Code := bodyAt (b_lsc) [1, 1, 1, 1, 1, 0, 1, 0]
theorem ok_lsc_0 : codeOK bd_lsc_0 = true := by kernel_rfl
noncomputable abbrev rest_lsc_0 (D : Dom) (K : Nat) (Φ : Ex → St → Prop) : Ex → St → Prop := fun e S' => Holds C P 126 D K Φ (after C w_lsc (b_lsc) [1, 1, 1, 1, 1, 0, 1, 0] [] lf e S')
theorem lsc_L0 (d c : Dk) (i : Nat) {D : Dom} (K : Nat) (Φ : Ex → St → Prop) :
 (Holds C P 126 D K (RoundQ C 126 D K (I_lsc0 d c) (fun i => i ≤ 5) (fun i => 5 - i) ((fun i => 5 - i) (i)) (rest_lsc_0 D K Φ)) (vc C w_lsc bd_lsc_0 [] ((I_lsc0 d c) (i)) lf)) =
 (((decide (((i : Nat) : Int) < (5 : Int))) = true →
 (LoopOK C P 126 D K (bodyAt bd_lsc_0 [1, 0, 0, 1, 0]) (St.mk [(5, (AV.sb true)), (6, (AV.ptr 6 [])), (7, (AV.ptr 7 [])), (8, (AV.i ((i : Nat) : Int))), (9, (AV.i (0 : Int))), (32, (AV.v (Value.bool true)))] [(6, (Blk.c (dkA false false d))), (7, (Blk.c (dkA false false c)))] [6, 7]) (fun (e : Ex) (S' : St) => Holds C P 126 D K (RoundQ C 126 D K (I_lsc0 d c) (fun i => i ≤ 5) (fun i => 5 - i) ((fun i => 5 - i) (i)) (rest_lsc_0 D K Φ)) (after C w_lsc bd_lsc_0 [1, 0, 0, 1, 0] [] lf e S')))) ∧
 ((decide (((i : Nat) : Int) < (5 : Int))) = false →
 (∃ (S2 : St), Ent C 126 D K (St.mk [(5, (AV.sb true)), (6, (AV.ptr 6 [])), (7, (AV.ptr 7 [])), (8, (AV.i ((i : Nat) : Int))), (14, (AV.sl 106 [] 0 0 0 true 1)), (32, (AV.v (Value.bool false)))] [(6, (Blk.c (dkA false false d))), (7, (Blk.c (dkA false false c))), (106, (Blk.c (AV.st [])))] [106, 6, 7]) S2 ∧ Holds C P 126 D K Φ (cutAt C w_lsc b_lsc [1, 1, 1, 1, 1, 1, 1, 0, 0] S2 (after C w_lsc b_lsc [1, 1, 1, 1, 1, 1, 1, 0, 0] [] lf))))) := by kernel_rfl
noncomputable abbrev bd_lsc_1 : Code := bodyAt (bd_lsc_0) [1, 0, 0, 1, 0]
theorem ok_lsc_1 : codeOK bd_lsc_1 = true := by kernel_rfl
noncomputable abbrev rest_lsc_1 (D : Dom) (K : Nat) (Φ : Ex → St → Prop) : Ex → St → Prop := fun e S' => Holds C P 126 D K Φ (after C w_lsc (bd_lsc_0) [1, 0, 0, 1, 0] [] lf e S')
theorem lsc_L1 (d c : Dk) (i k : Nat) {D : Dom} (K : Nat) (Φ : Ex → St → Prop) :
 (Holds C P 126 D K (RoundQ C 126 D K (I_lsc1 d c i) (fun k => k ≤ 4) (fun k => 4 - k) ((fun k => 4 - k) (k)) (rest_lsc_1 D K Φ)) (vc C w_lsc bd_lsc_1 [] ((I_lsc1 d c i) (k)) lf)) =
 (((decide (((k : Nat) : Int) < (4 : Int))) = true →
 (Fun C P 13 [(AV.v (Value.int IntKind.u8 (IntKind.wrap IntKind.u8 ((i : Nat) : Int))))] [] (AV.i (idN (Int.toNat (IntKind.wrap IntKind.u8 ((i : Nat) : Int))))) [] ∧
 (True ∧
 (Fun C P 23 [(dkA false false c), (AV.i (idN (Int.toNat (IntKind.wrap IntKind.u8 ((i : Nat) : Int))))), (AV.i ((k : Nat) : Int))] [] (AV.st [(AV.dat (List.length (gotB (cont (toDk (dkA false false c))) (idN (Int.toNat (IntKind.wrap IntKind.u8 ((i : Nat) : Int)))) ((k : Nat) : Int))) false 1 (rowL (gotB (cont (toDk (dkA false false c))) (idN (Int.toNat (IntKind.wrap IntKind.u8 ((i : Nat) : Int)))) ((k : Nat) : Int)))), (AV.i (gotE (cont (toDk (dkA false false c))) (idN (Int.toNat (IntKind.wrap IntKind.u8 ((i : Nat) : Int)))) ((k : Nat) : Int)))]) [] ∧
 ((((true = true) ∧ (true = true)) ∧ (((true = true) ∧ (true = true)) ∧ True)) ∧
 (∃ (S2 : St), Ent C 126 D K (St.mk [(5, (AV.sb true)), (6, (AV.ptr 6 [])), (7, (AV.ptr 7 [])), (8, (AV.i ((i : Nat) : Int))), (9, (AV.i ((k : Nat) : Int))), (10, (AV.i (idN (Int.toNat (IntKind.wrap IntKind.u8 ((i : Nat) : Int)))))), (11, (AV.ptr 11 [])), (36, (AV.v (Value.bool true)))] [(6, (Blk.c (dkA false false d))), (7, (Blk.c (dkA false false c))), (11, (Blk.c (AV.st [(AV.dat (List.length (gotB (cont (toDk (dkA false false c))) (idN (Int.toNat (IntKind.wrap IntKind.u8 ((i : Nat) : Int)))) ((k : Nat) : Int))) false 1 (rowL (gotB (cont (toDk (dkA false false c))) (idN (Int.toNat (IntKind.wrap IntKind.u8 ((i : Nat) : Int)))) ((k : Nat) : Int)))), (AV.i (gotE (cont (toDk (dkA false false c))) (idN (Int.toNat (IntKind.wrap IntKind.u8 ((i : Nat) : Int)))) ((k : Nat) : Int)))])))] [11, 6, 7]) S2 ∧ Holds C P 126 D K (RoundQ C 126 D K (I_lsc1 d c i) (fun k => k ≤ 4) (fun k => 4 - k) ((fun k => 4 - k) (k)) (rest_lsc_1 D K Φ)) (cutAt C w_lsc bd_lsc_1 [1, 0, 0, 1, 1, 0] S2 (after C w_lsc bd_lsc_1 [1, 0, 0, 1, 1, 0] [] lf)))))))) ∧
 ((decide (((k : Nat) : Int) < (4 : Int))) = false →
 ((I64 (((i + 1) : Nat) : Int)) ∧
 (Φ Ex.normal (St.mk [(5, (AV.sb true)), (6, (AV.ptr 6 [])), (7, (AV.ptr 7 [])), (8, (AV.i (((i + 1) : Nat) : Int))), (9, (AV.i ((k : Nat) : Int))), (36, (AV.v (Value.bool false)))] [(6, (Blk.c (dkA false false d))), (7, (Blk.c (dkA false false c)))] [6, 7]))))) := by kernel_rfl
theorem lsc_C14 (d c : Dk) (i k : Nat) (id : Int) (gb : List Nat) (ge : Int) {D : Dom} (K : Nat) (Φ : Ex → St → Prop) :
 (Holds C P 126 D K Φ (cutAt C w_lsc bd_lsc_1 [1, 0, 0, 1, 1, 0] (S_lsc14 d c i k id gb ge) (after C w_lsc bd_lsc_1 [1, 0, 0, 1, 1, 0] [] lf))) =
 (Fun C P 23 [(AV.st [(csA false (Dk.l d)), (AV.dat 0 true 0 (fun (x : Nat) => (AV.v (Value.tuple #[]))))]), (AV.i id), (AV.i ((k : Nat) : Int))] [] (AV.st [(AV.dat (List.length (gotB (cont (toDk (AV.st [(csA false (Dk.l d)), (AV.dat 0 true 0 (fun (x : Nat) => (AV.v (Value.tuple #[]))))]))) id ((k : Nat) : Int))) false 1 (rowL (gotB (cont (toDk (AV.st [(csA false (Dk.l d)), (AV.dat 0 true 0 (fun (x : Nat) => (AV.v (Value.tuple #[]))))]))) id ((k : Nat) : Int)))), (AV.i (gotE (cont (toDk (AV.st [(csA false (Dk.l d)), (AV.dat 0 true 0 (fun (x : Nat) => (AV.v (Value.tuple #[]))))]))) id ((k : Nat) : Int)))]) [] ∧
 (Fun C P 26 [(AV.st [(AV.dat (List.length gb) false 1 (rowL gb)), (AV.i ge)]), (AV.st [(AV.dat (List.length (gotB (cont (toDk (AV.st [(csA false (Dk.l d)), (AV.dat 0 true 0 (fun (x : Nat) => (AV.v (Value.tuple #[]))))]))) id ((k : Nat) : Int))) false 1 (rowL (gotB (cont (toDk (AV.st [(csA false (Dk.l d)), (AV.dat 0 true 0 (fun (x : Nat) => (AV.v (Value.tuple #[]))))]))) id ((k : Nat) : Int)))), (AV.i (gotE (cont (toDk (AV.st [(csA false (Dk.l d)), (AV.dat 0 true 0 (fun (x : Nat) => (AV.v (Value.tuple #[]))))]))) id ((k : Nat) : Int)))])] [] (AV.sb ((strB (bytesL (List.length gb) (rowL gb)) (bytesL (List.length (gotB (cont (toDk (AV.st [(csA false (Dk.l d)), (AV.dat 0 true 0 (fun (x : Nat) => (AV.v (Value.tuple #[]))))]))) id ((k : Nat) : Int))) (rowL (gotB (cont (toDk (AV.st [(csA false (Dk.l d)), (AV.dat 0 true 0 (fun (x : Nat) => (AV.v (Value.tuple #[]))))]))) id ((k : Nat) : Int))))) && (ge == (gotE (cont (toDk (AV.st [(csA false (Dk.l d)), (AV.dat 0 true 0 (fun (x : Nat) => (AV.v (Value.tuple #[]))))]))) id ((k : Nat) : Int))))) [] ∧
 (True ∧
 (∃ (S2 : St), Ent C 126 D K (St.mk [(5, (AV.sb true)), (6, (AV.ptr 6 [])), (7, (AV.ptr 7 [])), (8, (AV.i ((i : Nat) : Int))), (9, (AV.i ((k : Nat) : Int))), (10, (AV.i id)), (11, (AV.ptr 11 [])), (12, (AV.sb ((strB (bytesL (List.length gb) (rowL gb)) (bytesL (List.length (gotB (cont (toDk (AV.st [(csA false (Dk.l d)), (AV.dat 0 true 0 (fun (x : Nat) => (AV.v (Value.tuple #[]))))]))) id ((k : Nat) : Int))) (rowL (gotB (cont (toDk (AV.st [(csA false (Dk.l d)), (AV.dat 0 true 0 (fun (x : Nat) => (AV.v (Value.tuple #[]))))]))) id ((k : Nat) : Int))))) && (ge == (gotE (cont (toDk (AV.st [(csA false (Dk.l d)), (AV.dat 0 true 0 (fun (x : Nat) => (AV.v (Value.tuple #[]))))]))) id ((k : Nat) : Int))))))] [(6, (Blk.c (dkA false false d))), (7, (Blk.c (dkA false false c))), (11, (Blk.c (AV.st [(AV.dat (List.length gb) false 1 (rowL gb)), (AV.i ge)])))] [6, 7, 11]) S2 ∧ Holds C P 126 D K Φ (cutAt C w_lsc bd_lsc_1 [1, 0, 0, 1, 1, 1, 0, 0] S2 (after C w_lsc bd_lsc_1 [1, 0, 0, 1, 1, 1, 0, 0] [] lf)))))) := by kernel_rfl
theorem lsc_C15 (d c : Dk) (i k : Nat) (id : Int) (gb : List Nat) (ge : Int) (b : Bool) {D : Dom} (K : Nat) (Φ : Ex → St → Prop) :
 (Holds C P 126 D K Φ (cutAt C w_lsc bd_lsc_1 [1, 0, 0, 1, 1, 1, 0, 0] (S_lsc15 d c i k id gb ge b) (after C w_lsc bd_lsc_1 [1, 0, 0, 1, 1, 1, 0, 0] [] lf))) =
 (LoopOK C P 126 D K (bodyAt bd_lsc_1 [1, 0, 0, 1, 1, 1, 0, 1, 0]) (St.mk [(5, (AV.sb true)), (6, (AV.ptr 6 [])), (7, (AV.ptr 7 [])), (8, (AV.i ((i : Nat) : Int))), (9, (AV.i ((k : Nat) : Int))), (10, (AV.i id)), (11, (AV.ptr 11 [])), (12, (AV.sb b)), (13, (AV.i (0 : Int)))] [(6, (Blk.c (dkA false false d))), (7, (Blk.c (dkA false false c))), (11, (Blk.c (AV.st [(AV.dat (List.length gb) false 1 (rowL gb)), (AV.i ge)])))] [6, 7, 11]) (fun (e : Ex) (S' : St) => Holds C P 126 D K Φ (after C w_lsc bd_lsc_1 [1, 0, 0, 1, 1, 1, 0, 1, 0] [] lf e S'))) := by kernel_rfl
noncomputable abbrev bd_lsc_2 : Code := bodyAt (bd_lsc_1) [1, 0, 0, 1, 1, 1, 0, 1, 0]
theorem ok_lsc_2 : codeOK bd_lsc_2 = true := by kernel_rfl
noncomputable abbrev rest_lsc_2 (D : Dom) (K : Nat) (Φ : Ex → St → Prop) : Ex → St → Prop := fun e S' => Holds C P 126 D K Φ (after C w_lsc (bd_lsc_1) [1, 0, 0, 1, 1, 1, 0, 1, 0] [] lf e S')
theorem lsc_L2 (d c : Dk) (i k : Nat) (id : Int) (gb : List Nat) (ge : Int) (F : Nat → Bool) (j : Nat) {D : Dom} (K : Nat) (Φ : Ex → St → Prop) :
 (Holds C P 126 D K (RoundQ C 126 D K (I_lsc2 d c i k id gb ge F) (fun j => j ≤ d.q.length) (fun j => d.q.length - j) ((fun j => d.q.length - j) (j)) (rest_lsc_2 D K Φ)) (vc C w_lsc bd_lsc_2 [] ((I_lsc2 d c i k id gb ge F) (j)) lf)) =
 (((decide (((j : Nat) : Int) < (((List.length (Dk.q d)) : Nat) : Int))) = true →
 ((((0 : Int) ≤ ((j : Nat) : Int)) ∧ (((j : Nat) : Int) < (((List.length (Dk.q d)) : Nat) : Int))) ∧
 ((((Cl.i (Jb.c (jbAt (Dk.q d) j))) == id) = true →
 ((((0 : Int) ≤ ((j : Nat) : Int)) ∧ (((j : Nat) : Int) < (((List.length (Dk.q d)) : Nat) : Int))) ∧
 (((Jb.dr (jbAt (Dk.q d) j)) = true →
 (((F j) = true →
 ((I64 (((j + 1) : Nat) : Int)) ∧
 ((RoundQ C 126 D K (I_lsc2 d c i k id gb ge F) (fun j => j ≤ d.q.length) (fun j => d.q.length - j) ((fun j => d.q.length - j) (j)) (rest_lsc_2 D K Φ)) Ex.normal (St.mk [(5, (AV.sb true)), (6, (AV.ptr 6 [])), (7, (AV.ptr 7 [])), (8, (AV.i ((i : Nat) : Int))), (9, (AV.i ((k : Nat) : Int))), (10, (AV.i id)), (11, (AV.ptr 11 [])), (12, (AV.v (Value.bool true))), (13, (AV.i (((j + 1) : Nat) : Int))), (58, (AV.v (Value.bool true))), (88, (AV.v (Value.bool true)))] [(6, (Blk.c (dkA false false d))), (7, (Blk.c (dkA false false c))), (11, (Blk.c (AV.st [(AV.dat (List.length gb) false 1 (rowL gb)), (AV.i ge)])))] [6, 7, 11])))) ∧
 ((F j) = false →
 ((I64 (((j + 1) : Nat) : Int)) ∧
 ((((0 : Int) ≤ ((j : Nat) : Int)) ∧ ((((j : Nat) : Int) ≤ (((j + 1) : Nat) : Int)) ∧ ((((j + 1) : Nat) : Int) ≤ (((List.length (Dk.q d)) : Nat) : Int)))) ∧
 (Fun C P 23 [(AV.st [(AV.dat 0 true 0 (fun (x : Nat) => (AV.v (Value.tuple #[])))), (AV.dat ((j + 1) - j) Bool.false 36 (fun (i1 : Nat) => (jbA (jbAt (Dk.q d) (j + i1)))))]), (AV.i id), (AV.i ((k : Nat) : Int))] [] (AV.st [(AV.dat (List.length (gotB (cont (toDk (AV.st [(AV.dat 0 true 0 (fun (x : Nat) => (AV.v (Value.tuple #[])))), (AV.dat ((j + 1) - j) Bool.false 36 (fun (i1 : Nat) => (jbA (jbAt (Dk.q d) (j + i1)))))]))) id ((k : Nat) : Int))) false 1 (rowL (gotB (cont (toDk (AV.st [(AV.dat 0 true 0 (fun (x : Nat) => (AV.v (Value.tuple #[])))), (AV.dat ((j + 1) - j) Bool.false 36 (fun (i1 : Nat) => (jbA (jbAt (Dk.q d) (j + i1)))))]))) id ((k : Nat) : Int)))), (AV.i (gotE (cont (toDk (AV.st [(AV.dat 0 true 0 (fun (x : Nat) => (AV.v (Value.tuple #[])))), (AV.dat ((j + 1) - j) Bool.false 36 (fun (i1 : Nat) => (jbA (jbAt (Dk.q d) (j + i1)))))]))) id ((k : Nat) : Int)))]) [] ∧
 (Fun C P 26 [(AV.st [(AV.dat (List.length gb) false 1 (rowL gb)), (AV.i ge)]), (AV.st [(AV.dat (List.length (gotB (cont (toDk (AV.st [(AV.dat 0 true 0 (fun (x : Nat) => (AV.v (Value.tuple #[])))), (AV.dat ((j + 1) - j) Bool.false 36 (fun (i1 : Nat) => (jbA (jbAt (Dk.q d) (j + i1)))))]))) id ((k : Nat) : Int))) false 1 (rowL (gotB (cont (toDk (AV.st [(AV.dat 0 true 0 (fun (x : Nat) => (AV.v (Value.tuple #[])))), (AV.dat ((j + 1) - j) Bool.false 36 (fun (i1 : Nat) => (jbA (jbAt (Dk.q d) (j + i1)))))]))) id ((k : Nat) : Int)))), (AV.i (gotE (cont (toDk (AV.st [(AV.dat 0 true 0 (fun (x : Nat) => (AV.v (Value.tuple #[])))), (AV.dat ((j + 1) - j) Bool.false 36 (fun (i1 : Nat) => (jbA (jbAt (Dk.q d) (j + i1)))))]))) id ((k : Nat) : Int)))])] [] (AV.sb ((strB (bytesL (List.length gb) (rowL gb)) (bytesL (List.length (gotB (cont (toDk (AV.st [(AV.dat 0 true 0 (fun (x : Nat) => (AV.v (Value.tuple #[])))), (AV.dat ((j + 1) - j) Bool.false 36 (fun (i1 : Nat) => (jbA (jbAt (Dk.q d) (j + i1)))))]))) id ((k : Nat) : Int))) (rowL (gotB (cont (toDk (AV.st [(AV.dat 0 true 0 (fun (x : Nat) => (AV.v (Value.tuple #[])))), (AV.dat ((j + 1) - j) Bool.false 36 (fun (i1 : Nat) => (jbA (jbAt (Dk.q d) (j + i1)))))]))) id ((k : Nat) : Int))))) && (ge == (gotE (cont (toDk (AV.st [(AV.dat 0 true 0 (fun (x : Nat) => (AV.v (Value.tuple #[])))), (AV.dat ((j + 1) - j) Bool.false 36 (fun (i1 : Nat) => (jbA (jbAt (Dk.q d) (j + i1)))))]))) id ((k : Nat) : Int))))) [] ∧
 (True ∧
 ((I64 (((j + 1) : Nat) : Int)) ∧
 ((RoundQ C 126 D K (I_lsc2 d c i k id gb ge F) (fun j => j ≤ d.q.length) (fun j => d.q.length - j) ((fun j => d.q.length - j) (j)) (rest_lsc_2 D K Φ)) Ex.normal (St.mk [(5, (AV.sb true)), (6, (AV.ptr 6 [])), (7, (AV.ptr 7 [])), (8, (AV.i ((i : Nat) : Int))), (9, (AV.i ((k : Nat) : Int))), (10, (AV.i id)), (11, (AV.ptr 11 [])), (12, (AV.sb ((strB (bytesL (List.length gb) (rowL gb)) (bytesL (List.length (gotB (cont (toDk (AV.st [(AV.dat 0 true 0 (fun (x : Nat) => (AV.v (Value.tuple #[])))), (AV.dat ((j + 1) - j) Bool.false 36 (fun (i1 : Nat) => (jbA (jbAt (Dk.q d) (j + i1)))))]))) id ((k : Nat) : Int))) (rowL (gotB (cont (toDk (AV.st [(AV.dat 0 true 0 (fun (x : Nat) => (AV.v (Value.tuple #[])))), (AV.dat ((j + 1) - j) Bool.false 36 (fun (i1 : Nat) => (jbA (jbAt (Dk.q d) (j + i1)))))]))) id ((k : Nat) : Int))))) && (ge == (gotE (cont (toDk (AV.st [(AV.dat 0 true 0 (fun (x : Nat) => (AV.v (Value.tuple #[])))), (AV.dat ((j + 1) - j) Bool.false 36 (fun (i1 : Nat) => (jbA (jbAt (Dk.q d) (j + i1)))))]))) id ((k : Nat) : Int)))))), (13, (AV.i (((j + 1) : Nat) : Int))), (58, (AV.v (Value.bool true))), (88, (AV.v (Value.bool true)))] [(6, (Blk.c (dkA false false d))), (7, (Blk.c (dkA false false c))), (11, (Blk.c (AV.st [(AV.dat (List.length gb) false 1 (rowL gb)), (AV.i ge)])))] [6, 7, 11]))))))))))) ∧
 ((Jb.dr (jbAt (Dk.q d) j)) = false →
 ((((0 : Int) ≤ ((j : Nat) : Int)) ∧ (((j : Nat) : Int) < (((List.length (Dk.q d)) : Nat) : Int))) ∧
 ((((Cl.s (Jb.c (jbAt (Dk.q d) j))) == ((k : Nat) : Int)) = true →
 (((F j) = true →
 ((I64 (((j + 1) : Nat) : Int)) ∧
 ((RoundQ C 126 D K (I_lsc2 d c i k id gb ge F) (fun j => j ≤ d.q.length) (fun j => d.q.length - j) ((fun j => d.q.length - j) (j)) (rest_lsc_2 D K Φ)) Ex.normal (St.mk [(5, (AV.sb true)), (6, (AV.ptr 6 [])), (7, (AV.ptr 7 [])), (8, (AV.i ((i : Nat) : Int))), (9, (AV.i ((k : Nat) : Int))), (10, (AV.i id)), (11, (AV.ptr 11 [])), (12, (AV.v (Value.bool true))), (13, (AV.i (((j + 1) : Nat) : Int))), (58, (AV.v (Value.bool true))), (88, (AV.v (Value.bool true)))] [(6, (Blk.c (dkA false false d))), (7, (Blk.c (dkA false false c))), (11, (Blk.c (AV.st [(AV.dat (List.length gb) false 1 (rowL gb)), (AV.i ge)])))] [6, 7, 11])))) ∧
 ((F j) = false →
 ((I64 (((j + 1) : Nat) : Int)) ∧
 ((((0 : Int) ≤ ((j : Nat) : Int)) ∧ ((((j : Nat) : Int) ≤ (((j + 1) : Nat) : Int)) ∧ ((((j + 1) : Nat) : Int) ≤ (((List.length (Dk.q d)) : Nat) : Int)))) ∧
 (Fun C P 23 [(AV.st [(AV.dat 0 true 0 (fun (x : Nat) => (AV.v (Value.tuple #[])))), (AV.dat ((j + 1) - j) Bool.false 36 (fun (i1 : Nat) => (jbA (jbAt (Dk.q d) (j + i1)))))]), (AV.i id), (AV.i ((k : Nat) : Int))] [] (AV.st [(AV.dat (List.length (gotB (cont (toDk (AV.st [(AV.dat 0 true 0 (fun (x : Nat) => (AV.v (Value.tuple #[])))), (AV.dat ((j + 1) - j) Bool.false 36 (fun (i1 : Nat) => (jbA (jbAt (Dk.q d) (j + i1)))))]))) id ((k : Nat) : Int))) false 1 (rowL (gotB (cont (toDk (AV.st [(AV.dat 0 true 0 (fun (x : Nat) => (AV.v (Value.tuple #[])))), (AV.dat ((j + 1) - j) Bool.false 36 (fun (i1 : Nat) => (jbA (jbAt (Dk.q d) (j + i1)))))]))) id ((k : Nat) : Int)))), (AV.i (gotE (cont (toDk (AV.st [(AV.dat 0 true 0 (fun (x : Nat) => (AV.v (Value.tuple #[])))), (AV.dat ((j + 1) - j) Bool.false 36 (fun (i1 : Nat) => (jbA (jbAt (Dk.q d) (j + i1)))))]))) id ((k : Nat) : Int)))]) [] ∧
 (Fun C P 26 [(AV.st [(AV.dat (List.length gb) false 1 (rowL gb)), (AV.i ge)]), (AV.st [(AV.dat (List.length (gotB (cont (toDk (AV.st [(AV.dat 0 true 0 (fun (x : Nat) => (AV.v (Value.tuple #[])))), (AV.dat ((j + 1) - j) Bool.false 36 (fun (i1 : Nat) => (jbA (jbAt (Dk.q d) (j + i1)))))]))) id ((k : Nat) : Int))) false 1 (rowL (gotB (cont (toDk (AV.st [(AV.dat 0 true 0 (fun (x : Nat) => (AV.v (Value.tuple #[])))), (AV.dat ((j + 1) - j) Bool.false 36 (fun (i1 : Nat) => (jbA (jbAt (Dk.q d) (j + i1)))))]))) id ((k : Nat) : Int)))), (AV.i (gotE (cont (toDk (AV.st [(AV.dat 0 true 0 (fun (x : Nat) => (AV.v (Value.tuple #[])))), (AV.dat ((j + 1) - j) Bool.false 36 (fun (i1 : Nat) => (jbA (jbAt (Dk.q d) (j + i1)))))]))) id ((k : Nat) : Int)))])] [] (AV.sb ((strB (bytesL (List.length gb) (rowL gb)) (bytesL (List.length (gotB (cont (toDk (AV.st [(AV.dat 0 true 0 (fun (x : Nat) => (AV.v (Value.tuple #[])))), (AV.dat ((j + 1) - j) Bool.false 36 (fun (i1 : Nat) => (jbA (jbAt (Dk.q d) (j + i1)))))]))) id ((k : Nat) : Int))) (rowL (gotB (cont (toDk (AV.st [(AV.dat 0 true 0 (fun (x : Nat) => (AV.v (Value.tuple #[])))), (AV.dat ((j + 1) - j) Bool.false 36 (fun (i1 : Nat) => (jbA (jbAt (Dk.q d) (j + i1)))))]))) id ((k : Nat) : Int))))) && (ge == (gotE (cont (toDk (AV.st [(AV.dat 0 true 0 (fun (x : Nat) => (AV.v (Value.tuple #[])))), (AV.dat ((j + 1) - j) Bool.false 36 (fun (i1 : Nat) => (jbA (jbAt (Dk.q d) (j + i1)))))]))) id ((k : Nat) : Int))))) [] ∧
 (True ∧
 ((I64 (((j + 1) : Nat) : Int)) ∧
 ((RoundQ C 126 D K (I_lsc2 d c i k id gb ge F) (fun j => j ≤ d.q.length) (fun j => d.q.length - j) ((fun j => d.q.length - j) (j)) (rest_lsc_2 D K Φ)) Ex.normal (St.mk [(5, (AV.sb true)), (6, (AV.ptr 6 [])), (7, (AV.ptr 7 [])), (8, (AV.i ((i : Nat) : Int))), (9, (AV.i ((k : Nat) : Int))), (10, (AV.i id)), (11, (AV.ptr 11 [])), (12, (AV.sb ((strB (bytesL (List.length gb) (rowL gb)) (bytesL (List.length (gotB (cont (toDk (AV.st [(AV.dat 0 true 0 (fun (x : Nat) => (AV.v (Value.tuple #[])))), (AV.dat ((j + 1) - j) Bool.false 36 (fun (i1 : Nat) => (jbA (jbAt (Dk.q d) (j + i1)))))]))) id ((k : Nat) : Int))) (rowL (gotB (cont (toDk (AV.st [(AV.dat 0 true 0 (fun (x : Nat) => (AV.v (Value.tuple #[])))), (AV.dat ((j + 1) - j) Bool.false 36 (fun (i1 : Nat) => (jbA (jbAt (Dk.q d) (j + i1)))))]))) id ((k : Nat) : Int))))) && (ge == (gotE (cont (toDk (AV.st [(AV.dat 0 true 0 (fun (x : Nat) => (AV.v (Value.tuple #[])))), (AV.dat ((j + 1) - j) Bool.false 36 (fun (i1 : Nat) => (jbA (jbAt (Dk.q d) (j + i1)))))]))) id ((k : Nat) : Int)))))), (13, (AV.i (((j + 1) : Nat) : Int))), (58, (AV.v (Value.bool true))), (88, (AV.v (Value.bool true)))] [(6, (Blk.c (dkA false false d))), (7, (Blk.c (dkA false false c))), (11, (Blk.c (AV.st [(AV.dat (List.length gb) false 1 (rowL gb)), (AV.i ge)])))] [6, 7, 11]))))))))))) ∧
 (((Cl.s (Jb.c (jbAt (Dk.q d) j))) == ((k : Nat) : Int)) = false →
 ((I64 (((j + 1) : Nat) : Int)) ∧
 ((RoundQ C 126 D K (I_lsc2 d c i k id gb ge F) (fun j => j ≤ d.q.length) (fun j => d.q.length - j) ((fun j => d.q.length - j) (j)) (rest_lsc_2 D K Φ)) Ex.normal (St.mk [(5, (AV.sb true)), (6, (AV.ptr 6 [])), (7, (AV.ptr 7 [])), (8, (AV.i ((i : Nat) : Int))), (9, (AV.i ((k : Nat) : Int))), (10, (AV.i id)), (11, (AV.ptr 11 [])), (12, (AV.sb (F j))), (13, (AV.i (((j + 1) : Nat) : Int))), (58, (AV.v (Value.bool true))), (88, (AV.v (Value.bool false)))] [(6, (Blk.c (dkA false false d))), (7, (Blk.c (dkA false false c))), (11, (Blk.c (AV.st [(AV.dat (List.length gb) false 1 (rowL gb)), (AV.i ge)])))] [6, 7, 11])))))))))) ∧
 (((Cl.i (Jb.c (jbAt (Dk.q d) j))) == id) = false →
 ((I64 (((j + 1) : Nat) : Int)) ∧
 ((RoundQ C 126 D K (I_lsc2 d c i k id gb ge F) (fun j => j ≤ d.q.length) (fun j => d.q.length - j) ((fun j => d.q.length - j) (j)) (rest_lsc_2 D K Φ)) Ex.normal (St.mk [(5, (AV.sb true)), (6, (AV.ptr 6 [])), (7, (AV.ptr 7 [])), (8, (AV.i ((i : Nat) : Int))), (9, (AV.i ((k : Nat) : Int))), (10, (AV.i id)), (11, (AV.ptr 11 [])), (12, (AV.sb (F j))), (13, (AV.i (((j + 1) : Nat) : Int))), (58, (AV.v (Value.bool true))), (88, (AV.v (Value.bool false)))] [(6, (Blk.c (dkA false false d))), (7, (Blk.c (dkA false false c))), (11, (Blk.c (AV.st [(AV.dat (List.length gb) false 1 (rowL gb)), (AV.i ge)])))] [6, 7, 11]))))))) ∧
 ((decide (((j : Nat) : Int) < (((List.length (Dk.q d)) : Nat) : Int))) = false →
 (∃ (S2 : St), Ent C 126 D K (St.mk [(5, (AV.sb true)), (6, (AV.ptr 6 [])), (7, (AV.ptr 7 [])), (8, (AV.i ((i : Nat) : Int))), (9, (AV.i ((k : Nat) : Int))), (10, (AV.i id)), (11, (AV.ptr 11 [])), (12, (AV.sb (F j))), (13, (AV.i ((j : Nat) : Int))), (58, (AV.v (Value.bool false)))] [(6, (Blk.c (dkA false false d))), (7, (Blk.c (dkA false false c))), (11, (Blk.c (AV.st [(AV.dat (List.length gb) false 1 (rowL gb)), (AV.i ge)])))] [6, 7, 11]) S2 ∧ Holds C P 126 D K Φ (cutAt C w_lsc bd_lsc_1 [1, 0, 0, 1, 1, 1, 1, 0] S2 (after C w_lsc bd_lsc_1 [1, 0, 0, 1, 1, 1, 1, 0] [] lf))))) := by kernel_rfl
theorem lsc_C20 (d c : Dk) (i k : Nat) {D : Dom} (K : Nat) (Φ : Ex → St → Prop) :
 (Holds C P 126 D K Φ (cutAt C w_lsc bd_lsc_1 [1, 0, 0, 1, 1, 1, 1, 0] (S_lsc20 d c i k) (after C w_lsc bd_lsc_1 [1, 0, 0, 1, 1, 1, 1, 0] [] lf))) =
 ((false = true →
 (Φ Ex.ret (St.mk [(4, (AV.v (Value.bool false))), (5, (AV.sb true)), (6, (AV.ptr 6 [])), (7, (AV.ptr 7 [])), (8, (AV.i ((i : Nat) : Int))), (9, (AV.i ((k : Nat) : Int))), (12, (AV.sb true)), (105, (AV.v (Value.bool true)))] [(6, (Blk.c (dkA false false d))), (7, (Blk.c (dkA false false c)))] [6, 7]))) ∧
 (false = false →
 ((I64 (((k + 1) : Nat) : Int)) ∧
 (Φ Ex.normal (St.mk [(5, (AV.sb true)), (6, (AV.ptr 6 [])), (7, (AV.ptr 7 [])), (8, (AV.i ((i : Nat) : Int))), (9, (AV.i (((k + 1) : Nat) : Int))), (12, (AV.sb true)), (105, (AV.v (Value.bool false)))] [(6, (Blk.c (dkA false false d))), (7, (Blk.c (dkA false false c)))] [6, 7]))))) := by kernel_rfl
theorem lsc_C23 (d : Dk) {D : Dom} (K : Nat) (Φ : Ex → St → Prop) :
 (Holds C P 126 D K Φ (cutAt C w_lsc b_lsc [1, 1, 1, 1, 1, 1, 1, 0, 0] (S_lsc23 d) (after C w_lsc b_lsc [1, 1, 1, 1, 1, 1, 1, 0, 0] [] lf))) =
 (LoopOK C P 126 D K (bodyAt b_lsc [1, 1, 1, 1, 1, 1, 1, 0, 1, 0]) (St.mk [(5, (AV.sb true)), (6, (AV.ptr 6 [])), (14, (AV.sl 14 [] 0 0 0 false 1)), (15, (AV.i (0 : Int)))] [(6, (Blk.c (dkA false false d))), (14, (Blk.c (AV.arr 0 1 (fun (x : Nat) => (AV.v (Value.bool true))))))] [6, 14]) (fun (e : Ex) (S' : St) => Holds C P 126 D K Φ (after C w_lsc b_lsc [1, 1, 1, 1, 1, 1, 1, 0, 1, 0] [] lf e S'))) := by kernel_rfl
noncomputable abbrev bd_lsc_3 : Code := bodyAt (b_lsc) [1, 1, 1, 1, 1, 1, 1, 0, 1, 0]
theorem ok_lsc_3 : codeOK bd_lsc_3 = true := by kernel_rfl
noncomputable abbrev rest_lsc_3 (D : Dom) (K : Nat) (Φ : Ex → St → Prop) : Ex → St → Prop := fun e S' => Holds C P 126 D K Φ (after C w_lsc (b_lsc) [1, 1, 1, 1, 1, 1, 1, 0, 1, 0] [] lf e S')
theorem lsc_L3 (d : Dk) (n : Nat) {D : Dom} (K : Nat) (Φ : Ex → St → Prop) :
 (Holds C P 126 D K (RoundQ C 126 D K (I_lsc3 d) (fun n => n ≤ d.q.length) (fun n => d.q.length - n) ((fun n => d.q.length - n) (n)) (rest_lsc_3 D K Φ)) (vc C w_lsc bd_lsc_3 [] ((I_lsc3 d) (n)) lf)) =
 (((decide (((n : Nat) : Int) < (((List.length (Dk.q d)) : Nat) : Int))) = true →
 ((((n + 1) * 1) ≤ 140737488355328) ∧
 ((I64 (((n + 1) : Nat) : Int)) ∧
 ((RoundQ C 126 D K (I_lsc3 d) (fun n => n ≤ d.q.length) (fun n => d.q.length - n) ((fun n => d.q.length - n) (n)) (rest_lsc_3 D K Φ)) Ex.normal (St.mk [(5, (AV.sb true)), (6, (AV.ptr 6 [])), (14, (AV.sl 116 [] 0 (n + 1) (n + 1) false 1)), (15, (AV.i (((n + 1) : Nat) : Int))), (111, (AV.v (Value.bool true)))] [(6, (Blk.c (dkA false false d))), (115, (Blk.c (AV.st [(AV.v (Value.bool true))]))), (116, (Blk.c (AV.arr (n + 1) 1 (cat n (fun (i : Nat) => (AV.v (Value.bool true))) (fun (i : Nat) => (nthD [(AV.v (Value.bool true))] (0 + i) (AV.v (Value.tuple #[]))))))))] [116, 115, 6, 14]))))) ∧
 ((decide (((n : Nat) : Int) < (((List.length (Dk.q d)) : Nat) : Int))) = false →
 (∃ (S2 : St), Ent C 126 D K (St.mk [(5, (AV.sb true)), (6, (AV.ptr 6 [])), (14, (AV.sl 14 [] 0 n n false 1)), (15, (AV.i ((n : Nat) : Int))), (111, (AV.v (Value.bool false)))] [(6, (Blk.c (dkA false false d))), (14, (Blk.c (AV.arr n 1 (fun (x : Nat) => (AV.v (Value.bool true))))))] [6, 14]) S2 ∧ Holds C P 126 D K Φ (cutAt C w_lsc b_lsc [1, 1, 1, 1, 1, 1, 1, 1, 0] S2 (after C w_lsc b_lsc [1, 1, 1, 1, 1, 1, 1, 1, 0] [] lf))))) := by kernel_rfl
theorem lsc_C27 (d : Dk) (l : List Bool) {D : Dom} (K : Nat) (Φ : Ex → St → Prop) :
 (Holds C P 126 D K Φ (cutAt C w_lsc b_lsc [1, 1, 1, 1, 1, 1, 1, 1, 0] (S_lsc27 d l) (after C w_lsc b_lsc [1, 1, 1, 1, 1, 1, 1, 1, 0] [] lf))) =
 (Fun C P 17 [(dkA false false d), (bA false l)] [] (AV.st [(csA false (Dk.l (crashD (toDk (dkA false false d)) (bLs (bA false l))))), (jsA false ([] : List Jb))]) [] ∧
 (Fun C P 15 [(dkA false false d)] [] (AV.st [(csA false (Dk.l (syncD (toDk (dkA false false d))))), (jsA false ([] : List Jb))]) [] ∧
 (Fun C P 22 [(AV.st [(csA false (Dk.l (crashD (toDk (dkA false false d)) (bLs (bA false l))))), (jsA false ([] : List Jb))]), (AV.st [(csA false (Dk.l (syncD (toDk (dkA false false d))))), (jsA false ([] : List Jb))])] [] (AV.sb (sameD (toDk (AV.st [(csA false (Dk.l (crashD (toDk (dkA false false d)) (bLs (bA false l))))), (jsA false ([] : List Jb))])) (toDk (AV.st [(csA false (Dk.l (syncD (toDk (dkA false false d))))), (jsA false ([] : List Jb))])))) [] ∧
 (True ∧
 (((sameD (toDk (AV.st [(csA false (Dk.l (crashD (toDk (dkA false false d)) (bLs (bA false l))))), (jsA false ([] : List Jb))])) (toDk (AV.st [(csA false (Dk.l (syncD (toDk (dkA false false d))))), (jsA false ([] : List Jb))]))) = true →
 (Φ Ex.ret (St.mk [(4, (AV.sb true)), (5, (AV.sb true)), (6, (AV.ptr 6 [])), (14, (bA false l))] [(6, (Blk.c (dkA false false d)))] [6]))) ∧
 ((sameD (toDk (AV.st [(csA false (Dk.l (crashD (toDk (dkA false false d)) (bLs (bA false l))))), (jsA false ([] : List Jb))])) (toDk (AV.st [(csA false (Dk.l (syncD (toDk (dkA false false d))))), (jsA false ([] : List Jb))]))) = false →
 (Φ Ex.ret (St.mk [(4, (AV.v (Value.bool false))), (5, (AV.sb true)), (6, (AV.ptr 6 [])), (14, (bA false l))] [(6, (Blk.c (dkA false false d)))] [6])))))))) := by kernel_rfl
theorem toDk_sv (X : List Cl) : toDk (AV.st [csA false X, jsA false ([] : List Jb)]) = ⟨X, []⟩ := toDk_A false false ⟨X, []⟩
theorem toDk_cells (ex : Bool) (X : List Cl) : toDk (AV.st [csA ex X, nilS]) = ⟨X, []⟩ := by
  show Dk.mk (toCls (csA ex X)) [] = _
  rw [toCls_A]
theorem toDk_job (q : List Jb) (j : Nat) : toDk (AV.st [nilS, (AV.dat ((j + 1) - j) false 36 (fun (i1 : Nat) => (jbA (jbAt q (j + i1)))))]) = ⟨[], [jbAt q j]⟩ := by
  rw [show j + 1 - j = 1 by omega]
  show Dk.mk [] [toJb (jbA (jbAt q (j + 0)))] = _
  rw [toJb_A, Nat.add_zero]
theorem fnd_mono {L : List Cl} {d : Dk} {i s : Int} {m : Nat} (h : fndC L d i s m = true) : ∀ n, m ≤ n → fndC L d i s n = true := fun n hn => by
  induction n with
  | zero => obtain rfl : m = 0 := by omega
            exact h
  | succ n ih =>
    by_cases e : m = n + 1
    · rw [← e]; exact h
    · show (fndC L d i s n || _) = true
      rw [ih (by omega)]; rfl
theorem fnd_true (d : Dk) (dn : List Bool) (i s : Int) : fndC (crashD d dn).l d i s d.q.length = true := by
  rcases prN_look (fun i => dn.getD i false) d.l d.q i s d.q.length with h | ⟨k, hk, h1, h2, h3⟩
  · exact fnd_mono (m := 0) (sgB_of h) _ (Nat.zero_le _)
  · refine fnd_mono (m := k + 1) ?_ _ hk
    have hm : mtJ (jbAt d.q k) i s = true := by
      unfold mtJ
      have h1 : (jbAt d.q k).c.i = i := h1
      have h2 : (jbAt d.q k).dr = true ∨ (jbAt d.q k).c.s = s := h2
      rw [h1, beq_self_eq_true, Bool.true_and]
      rcases h2 with h2 | h2
      · rw [h2]; rfl
      · rw [h2, beq_self_eq_true, Bool.or_true]
    have hs : sgB (crashD d dn).l (perf [] (jbAt d.q k)) i s = true := sgB_of h3
    show (fndC _ d i s k || (mtJ (jbAt d.q k) i s && sgB (crashD d dn).l (perf [] (jbAt d.q k)) i s)) = true
    rw [hm, hs]; simp
theorem VD.cells {d : Dk} (h : VD d) : VD ⟨d.l, []⟩ := ⟨h.cs, h.so, fun j hj => (by cases hj)⟩
theorem VD.one {d : Dk} (h : VD d) {j : Nat} (hj : j < d.q.length) : VD ⟨[], [jbAt d.q j]⟩ := ⟨fun c hc => (by cases hc), List.Pairwise.nil, fun k hk => (by
  rw [List.mem_singleton.1 hk]
  exact h.js _ (by rw [jbAt_lt hj]; exact List.getElem_mem hj))⟩
theorem crash_all (d : Dk) (n : Nat) (hn : n = d.q.length) : crashD d (List.replicate n true) = syncD d := by
  have : ∀ m, m ≤ d.q.length → prN (fun i => (List.replicate n true).getD i false) d.l d.q m = prN (fun _ => true) d.l d.q m := fun m => by
    induction m with
    | zero => exact fun _ => rfl
    | succ m ih =>
      intro hm
      have e : (List.replicate n true).getD m false = true := by
        rw [List.getD_eq_getElem?_getD, List.getElem?_replicate, if_pos (by omega)]; rfl
      show (if (List.replicate n true).getD m false = true then _ else _) = (if true = true then _ else _)
      rw [if_pos e, if_pos rfl, ih (by omega)]
  unfold crashD
  rw [this _ (Nat.le_refl _)]
  rfl
theorem lsc_fun (ea : Bool) (e3 e4 : Nat → Bool) (l : List Rw) (hx : ∀ x, x ∈ l → OkRw x) (ez : Bool) (dn : List Bool) : Fun C P F_lsc [rwsA ea e3 e4 l, bA ez dn] [] (.sb true) [] := by
  refine in_lsc (W := w_lsc) rfl 0 (by simp) rfl (fun id h => absurd rfl h) fun D => ?_
  rw [lsc_A ea e3 e4 l ez dn 0 _, toRws_A]
  have hm := made_fun ea e3 e4 l 12 hx (by decide)
  obtain ⟨hv, few⟩ := made_ok hx 12
  have hlen := few.len
  obtain ⟨d, ed⟩ : ∃ d, d = madeN l (min 12 l.length) := ⟨_, rfl⟩
  rw [← ed] at hm hv hlen ⊢
  refine ⟨sanity_fun, trivial, hm, TD2, cut_ok (S2 := S_lsc3 ez dn d) (ent_of [(6, 6)] rfl (tm_cons rfl (sm_same rfl) (tm_cons rfl (sm_same rfl) (tm_cons rfl (sm_ptr rfl) tm_nil))) (hp_cons rfl rfl (sm_same rfl) hp_nil)) ?_⟩
  rw [lsc_C3 ez dn d 0 _, toDk_A, bLs_A]
  have hs := crash_fun false false d ez dn hv.so (by omega)
  have vc := hv.crash dn
  have hl := prN_len (f := fun i => dn.getD i false) hv.so d.q d.q.length
  have hF := fnd_true d dn
  have cc : cont (crashD d dn) = (crashD d dn).l := rfl
  refine ⟨hs, TD2, ?_⟩
  have lc : (crashD d dn).l.length ≤ 12 := by show (prN (fun i => dn.getD i false) d.l d.q d.q.length).length ≤ 12; omega
  have lq : (crashD d dn).q.length = 0 := rfl
  obtain ⟨c, ec⟩ : ∃ c, c = crashD d dn := ⟨_, rfl⟩
  have hcv : c = ⟨c.l, []⟩ := by rw [ec]; rfl
  rw [← ec] at hs vc hF cc lc lq ⊢
  refine cut_ok (S2 := S_lsc4 d c) (ent_of [(6, 6), (7, 7)] rfl (tm_cons rfl (sm_same rfl) (tm_cons rfl (sm_ptr rfl) (tm_cons rfl (sm_ptr rfl) tm_nil))) (hp_cons rfl rfl (sm_same rfl) (hp_cons rfl rfl (sm_sv hcv) hp_nil))) ?_
  clear ec
  rw [lsc_C4 d c 0 _, toDk_A]
  refine ⟨rvalid_fun false false c (vc.smV (by omega)), trivial, nf_then vc.vld (ff_then (by rw [lq]; rfl) (cut_ok (S2 := S_lsc4 d c) (ent_of [(6, 6), (7, 7)] rfl (tm_cons rfl (sm_same rfl) (tm_cons rfl (sm_ptr rfl) (tm_cons rfl (sm_ptr rfl) tm_nil))) (hp_cons rfl rfl (sm_same rfl) (hp_cons rfl rfl (sm_same rfl) hp_nil))) ?_))⟩
  rw [lsc_C6 d c 0 _]
  refine loop_inv (W := w_lsc) ctx mixed ok_lsc_0 (I_lsc0 d c) (fun i => i ≤ 5) (fun i => 5 - i) 0 (Nat.zero_le _) ?_ fun i hi => ?_
  · exact ent_of [(6, 6), (7, 7)] rfl (tm_cons rfl (sm_same rfl) (tm_cons rfl (sm_ptr rfl) (tm_cons rfl (sm_ptr rfl) (tm_cons rfl (sm_same rfl) tm_nil)))) (hp_cons rfl rfl (sm_same rfl) (hp_cons rfl rfl (sm_same rfl) hp_nil))
  refine of_eq (lsc_L0 d c i 0 _) ⟨fun h => ?_, fun h => ?_⟩
  · simp only [decide_eq_true_eq] at h
    refine loop_inv (W := w_lsc) ctx mixed ok_lsc_1 (I_lsc1 d c i) (fun k => k ≤ 4) (fun k => 4 - k) 0 (Nat.zero_le _) ?_ fun k hk => ?_
    · exact ent_of [(6, 6), (7, 7)] rfl (tm_cons rfl (sm_same rfl) (tm_cons rfl (sm_ptr rfl) (tm_cons rfl (sm_ptr rfl) (tm_cons rfl (sm_same rfl) (tm_cons rfl (sm_same rfl) tm_nil))))) (hp_cons rfl rfl (sm_same rfl) (hp_cons rfl rfl (sm_same rfl) hp_nil))
    refine of_eq (lsc_L1 d c i k 0 _) ⟨fun h2 => ?_, fun h2 => ?_⟩
    · simp only [decide_eq_true_eq] at h2
      rw [wr_u8 (show i < 256 by omega), Int.toNat_natCast, toDk_A, cc]
      have hg := lget_fun false false c vc (idN i) k (by omega)
      rw [cc] at hg
      have sm : Small (gotB c.l (idN i) k) := by have := vc.gotB (idN i) k; rwa [cc] at this
      obtain ⟨id, eid⟩ : ∃ id, id = idN i := ⟨_, rfl⟩
      have hi := rid_fun i (by omega)
      rw [← eid] at hg sm hi ⊢
      have hFt := hF id k
      refine ⟨hi, trivial, hg, TD2, cut_ok (S2 := S_lsc14 d c i k id (gotB c.l id k) (gotE c.l id k)) (ent_of [(6, 6), (7, 7), (11, 11)] rfl (tm_cons rfl (sm_same rfl) (tm_cons rfl (sm_ptr rfl) (tm_cons rfl (sm_ptr rfl) (tm_cons rfl (sm_same rfl) (tm_cons rfl (sm_same rfl) (tm_cons rfl (sm_same rfl) (tm_cons rfl (sm_ptr rfl) tm_nil))))))) (hp_cons rfl rfl (sm_same rfl) (hp_cons rfl rfl (sm_same rfl) (hp_cons rfl rfl (sm_same rfl) hp_nil)))) ?_⟩
      rw [lsc_C14 d c i k id (gotB c.l id k) (gotE c.l id k) 0 _, toDk_cells, bytesL_row, bytesL_row]
      have v1 := hv.cells
      have hg2 := (lget_fun false false ⟨d.l, []⟩ v1 id k (by show d.l.length + 0 < _; omega)).sim (args := [AV.st [csA false d.l, nilS], .i id, .i k]) (H := []) ⟨sm_st (sms_cons (sm_same rfl) (sms_cons sm_nilJ sms_nil)), sm_int rfl, sm_int rfl, trivial⟩ trivial
      have sm2 : Small (gotB d.l id k) := v1.gotB id k
      refine ⟨hg2, sgot_fun _ _ _ _ sm sm2, trivial, cut_ok (S2 := S_lsc15 d c i k id (gotB c.l id k) (gotE c.l id k) (fndC c.l d id k 0)) (ent_of [(6, 6), (7, 7), (11, 11)] rfl (tm_cons rfl (sm_same rfl) (tm_cons rfl (sm_ptr rfl) (tm_cons rfl (sm_ptr rfl) (tm_cons rfl (sm_same rfl) (tm_cons rfl (sm_same rfl) (tm_cons rfl (sm_same rfl) (tm_cons rfl (sm_ptr rfl) (tm_cons rfl (sm_sb rfl) tm_nil)))))))) (hp_cons rfl rfl (sm_same rfl) (hp_cons rfl rfl (sm_same rfl) (hp_cons rfl rfl (sm_same rfl) hp_nil)))) ?_⟩
      rw [lsc_C15 d c i k id (gotB c.l id k) (gotE c.l id k) (fndC c.l d id k 0) 0 _]
      refine loop_inv (W := w_lsc) ctx mixed ok_lsc_2 (I_lsc2 d c i k id (gotB c.l id k) (gotE c.l id k) (fndC c.l d id k)) (fun j => j ≤ d.q.length) (fun j => d.q.length - j) 0 (Nat.zero_le _) ?_ fun j hj => ?_
      · exact ent_of [(6, 6), (7, 7), (11, 11)] rfl (tm_cons rfl (sm_same rfl) (tm_cons rfl (sm_ptr rfl) (tm_cons rfl (sm_ptr rfl) (tm_cons rfl (sm_same rfl) (tm_cons rfl (sm_same rfl) (tm_cons rfl (sm_same rfl) (tm_cons rfl (sm_ptr rfl) (tm_cons rfl (sm_same rfl) (tm_cons rfl (sm_same rfl) tm_nil))))))))) (hp_cons rfl rfl (sm_same rfl) (hp_cons rfl rfl (sm_same rfl) (hp_cons rfl rfl (sm_same rfl) hp_nil)))
      refine of_eq (lsc_L2 d c i k id (gotB c.l id k) (gotE c.l id k) (fndC c.l d id k) j 0 _) ⟨fun h3 => ?_, fun h3 => ?_⟩
      · simp only [decide_eq_true_eq] at h3
        have hlt : j < d.q.length := by omega
        rw [toDk_job, bytesL_row, bytesL_row]
        have v2 := hv.one hlt
        have cj : cont ⟨[], [jbAt d.q j]⟩ = perf [] (jbAt d.q j) := rfl
        have hg3 := (lget_fun false false ⟨[], [jbAt d.q j]⟩ v2 id k (by show 0 + 1 < _; decide)).sim (args := [AV.st [nilS, (AV.dat ((j + 1) - j) false 36 (fun (i1 : Nat) => (jbA (jbAt d.q (j + i1)))))], .i id, .i k]) (H := []) ⟨sm_st (sms_cons (.inr ⟨rfl, by simp, .inl rfl, fun i hi => absurd hi (Nat.not_lt_zero i)⟩) (sms_cons (sm_dat' (by show j + 1 - j = 1; omega) (by simp) fun m hm => by
          obtain rfl : m = 0 := by omega
          rfl) sms_nil)), sm_int rfl, sm_int rfl, trivial⟩ trivial
        have sm3 : Small (gotB (cont ⟨[], [jbAt d.q j]⟩) id k) := v2.gotB id k
        have hsg := sgot_fun _ _ (gotE c.l id k) (gotE (cont ⟨[], [jbAt d.q j]⟩) id k) sm sm3
        have eF : fndC c.l d id k (j + 1) = (fndC c.l d id k j || (mtJ (jbAt d.q j) id k && sgB c.l (perf [] (jbAt d.q j)) id k)) := rfl
        have B : ((0 : Int) ≤ (j : Int)) ∧ ((j : Int) < (d.q.length : Int)) := ⟨by omega, h3⟩
        have B2 : ((0 : Int) ≤ (j : Int)) ∧ (((j : Int) ≤ ((j + 1 : Nat) : Int)) ∧ (((j + 1 : Nat) : Int) ≤ (d.q.length : Int))) := ⟨by omega, by omega, by omega⟩
        have Bi : I64 ((j + 1 : Nat) : Int) := ⟨by omega, by omega⟩
        have onT : ∀ {b : Bool}, fndC c.l d id k j = true → fndC c.l d id k (j + 1) = true := fun h => by rw [eF, h]; rfl
        have onM : mtJ (jbAt d.q j) id k = true → fndC c.l d id k j = false → fndC c.l d id k (j + 1) = sgB c.l (perf [] (jbAt d.q j)) id k := fun h h2 => by rw [eF, h, h2]; rfl
        have onN : mtJ (jbAt d.q j) id k = false → fndC c.l d id k (j + 1) = fndC c.l d id k j := fun h => by rw [eF, h]; simp
        have mid : j + 1 ≤ d.q.length := hlt
        refine ⟨B, fun g1 => ⟨B, fun g2 => ⟨fun g3 => ?_, fun g3 => ?_⟩, fun g2 => ⟨B, fun g4 => ⟨fun g3 => ?_, fun g3 => ?_⟩, fun g4 => ?_⟩⟩, fun g1 => ?_⟩
        · exact ⟨Bi, round_end (j + 1) mid (ent_of [(6, 6), (7, 7), (11, 11)] rfl (tm_cons rfl (sm_same rfl) (tm_cons rfl (sm_ptr rfl) (tm_cons rfl (sm_ptr rfl) (tm_cons rfl (sm_same rfl) (tm_cons rfl (sm_same rfl) (tm_cons rfl (sm_same rfl) (tm_cons rfl (sm_ptr rfl) (tm_cons rfl (sm_b (by rw [onT (b := true) g3])) (tm_cons rfl (sm_same rfl) tm_nil))))))))) (hp_cons rfl rfl (sm_same rfl) (hp_cons rfl rfl (sm_same rfl) (hp_cons rfl rfl (sm_same rfl) hp_nil)))) (by dsimp only; omega)⟩
        · have hmt : mtJ (jbAt d.q j) id k = true := by unfold mtJ; rw [g1, g2]; rfl
          exact ⟨Bi, B2, hg3, hsg, trivial, Bi, round_end (j + 1) mid (ent_of [(6, 6), (7, 7), (11, 11)] rfl (tm_cons rfl (sm_same rfl) (tm_cons rfl (sm_ptr rfl) (tm_cons rfl (sm_ptr rfl) (tm_cons rfl (sm_same rfl) (tm_cons rfl (sm_same rfl) (tm_cons rfl (sm_same rfl) (tm_cons rfl (sm_ptr rfl) (tm_cons rfl (sm_sb (by rw [onM hmt g3]; rfl)) (tm_cons rfl (sm_same rfl) tm_nil))))))))) (hp_cons rfl rfl (sm_same rfl) (hp_cons rfl rfl (sm_same rfl) (hp_cons rfl rfl (sm_same rfl) hp_nil)))) (by dsimp only; omega)⟩
        · exact ⟨Bi, round_end (j + 1) mid (ent_of [(6, 6), (7, 7), (11, 11)] rfl (tm_cons rfl (sm_same rfl) (tm_cons rfl (sm_ptr rfl) (tm_cons rfl (sm_ptr rfl) (tm_cons rfl (sm_same rfl) (tm_cons rfl (sm_same rfl) (tm_cons rfl (sm_same rfl) (tm_cons rfl (sm_ptr rfl) (tm_cons rfl (sm_b (by rw [onT (b := true) g3])) (tm_cons rfl (sm_same rfl) tm_nil))))))))) (hp_cons rfl rfl (sm_same rfl) (hp_cons rfl rfl (sm_same rfl) (hp_cons rfl rfl (sm_same rfl) hp_nil)))) (by dsimp only; omega)⟩
        · have hmt : mtJ (jbAt d.q j) id k = true := by unfold mtJ; rw [g1, g2, g4]; rfl
          exact ⟨Bi, B2, hg3, hsg, trivial, Bi, round_end (j + 1) mid (ent_of [(6, 6), (7, 7), (11, 11)] rfl (tm_cons rfl (sm_same rfl) (tm_cons rfl (sm_ptr rfl) (tm_cons rfl (sm_ptr rfl) (tm_cons rfl (sm_same rfl) (tm_cons rfl (sm_same rfl) (tm_cons rfl (sm_same rfl) (tm_cons rfl (sm_ptr rfl) (tm_cons rfl (sm_sb (by rw [onM hmt g3]; rfl)) (tm_cons rfl (sm_same rfl) tm_nil))))))))) (hp_cons rfl rfl (sm_same rfl) (hp_cons rfl rfl (sm_same rfl) (hp_cons rfl rfl (sm_same rfl) hp_nil)))) (by dsimp only; omega)⟩
        · have hmt : mtJ (jbAt d.q j) id k = false := by unfold mtJ; rw [g2, g4]; simp
          exact ⟨Bi, round_end (j + 1) mid (ent_of [(6, 6), (7, 7), (11, 11)] rfl (tm_cons rfl (sm_same rfl) (tm_cons rfl (sm_ptr rfl) (tm_cons rfl (sm_ptr rfl) (tm_cons rfl (sm_same rfl) (tm_cons rfl (sm_same rfl) (tm_cons rfl (sm_same rfl) (tm_cons rfl (sm_ptr rfl) (tm_cons rfl (sm_sb (onN hmt).symm) (tm_cons rfl (sm_same rfl) tm_nil))))))))) (hp_cons rfl rfl (sm_same rfl) (hp_cons rfl rfl (sm_same rfl) (hp_cons rfl rfl (sm_same rfl) hp_nil)))) (by dsimp only; omega)⟩
        · have hmt : mtJ (jbAt d.q j) id k = false := by unfold mtJ; rw [g1]; rfl
          exact ⟨Bi, round_end (j + 1) mid (ent_of [(6, 6), (7, 7), (11, 11)] rfl (tm_cons rfl (sm_same rfl) (tm_cons rfl (sm_ptr rfl) (tm_cons rfl (sm_ptr rfl) (tm_cons rfl (sm_same rfl) (tm_cons rfl (sm_same rfl) (tm_cons rfl (sm_same rfl) (tm_cons rfl (sm_ptr rfl) (tm_cons rfl (sm_sb (onN hmt).symm) (tm_cons rfl (sm_same rfl) tm_nil))))))))) (hp_cons rfl rfl (sm_same rfl) (hp_cons rfl rfl (sm_same rfl) (hp_cons rfl rfl (sm_same rfl) hp_nil)))) (by dsimp only; omega)⟩
      · simp only [decide_eq_false_iff_not] at h3
        obtain rfl : j = d.q.length := by omega
        refine cut_ok (S2 := S_lsc20 d c i k) (ent_of [(6, 6), (7, 7)] rfl (tm_cons rfl (sm_same rfl) (tm_cons rfl (sm_ptr rfl) (tm_cons rfl (sm_ptr rfl) (tm_cons rfl (sm_same rfl) (tm_cons rfl (sm_same rfl) (tm_cons rfl (sm_sb hFt) tm_nil)))))) (hp_cons rfl rfl (sm_same rfl) (hp_cons rfl rfl (sm_same rfl) hp_nil))) ?_
        rw [lsc_C20 d c i k 0 _]
        exact ⟨fun h => (by cases h), fun _ => ⟨(by first | omega | decide | (unfold I64; omega)), round_end (k + 1) (by omega) (ent_of [(6, 6), (7, 7)] rfl (tm_cons rfl (sm_same rfl) (tm_cons rfl (sm_ptr rfl) (tm_cons rfl (sm_ptr rfl) (tm_cons rfl (sm_same rfl) (tm_cons rfl (sm_same rfl) tm_nil))))) (hp_cons rfl rfl (sm_same rfl) (hp_cons rfl rfl (sm_same rfl) hp_nil))) (by dsimp only; omega)⟩⟩
    · simp only [decide_eq_false_iff_not] at h2
      exact ⟨(by first | omega | decide | (unfold I64; omega)), round_end (i + 1) (by omega) (ent_of [(6, 6), (7, 7)] rfl (tm_cons rfl (sm_same rfl) (tm_cons rfl (sm_ptr rfl) (tm_cons rfl (sm_ptr rfl) (tm_cons rfl (sm_same rfl) tm_nil)))) (hp_cons rfl rfl (sm_same rfl) (hp_cons rfl rfl (sm_same rfl) hp_nil))) (by dsimp only; omega)⟩
  refine cut_ok (S2 := S_lsc23 d) (ent_of [(6, 6), (106, 14)] rfl (tm_cons rfl (sm_same rfl) (tm_cons rfl (sm_ptr rfl) (tm_cons rfl (sm_sl rfl rfl (Nat.le_refl _) (Nat.le_refl _) (by simp)) tm_nil))) (hp_cons rfl rfl (sm_same rfl) (hp_cons rfl rfl (sm_row rfl rfl rfl (fun i x hx => by cases hx)) hp_nil))) ?_
  rw [lsc_C23 d 0 _]
  refine loop_inv (W := w_lsc) ctx mixed ok_lsc_3 (I_lsc3 d) (fun n => n ≤ d.q.length) (fun n => d.q.length - n) 0 (Nat.zero_le _) ?_ fun n hn => ?_
  · exact ent_of [(6, 6), (14, 14)] rfl (tm_cons rfl (sm_same rfl) (tm_cons rfl (sm_ptr rfl) (tm_cons rfl (sm_sl rfl rfl (Nat.le_refl _) (Nat.le_refl _) (by simp)) (tm_cons rfl (sm_same rfl) tm_nil)))) (hp_cons rfl rfl (sm_same rfl) (hp_cons rfl rfl (sm_same rfl) hp_nil))
  refine of_eq (lsc_L3 d n 0 _) ⟨fun h => ?_, fun h => ?_⟩
  · simp only [decide_eq_true_eq] at h
    refine ⟨by omega, (by first | omega | decide | (unfold I64; omega)), round_end (n + 1) (by omega) (ent_of [(6, 6), (116, 14)] rfl (tm_cons rfl (sm_same rfl) (tm_cons rfl (sm_ptr rfl) (tm_cons rfl (sm_sl rfl rfl (Nat.le_refl _) (Nat.le_refl _) (by simp)) (tm_cons rfl (sm_same rfl) tm_nil)))) (hp_cons rfl rfl (sm_same rfl) (hp_cons rfl rfl (sm_arr fun k hk => ?_) hp_nil))) (by dsimp only; omega)⟩
    unfold cat
    by_cases e : k < n
    · rw [if_pos e]
    · rw [if_neg e]
      obtain rfl : k = n := by omega
      rw [Nat.sub_self]; rfl
  · simp only [decide_eq_false_iff_not] at h
    obtain rfl : n = d.q.length := by omega
    refine cut_ok (S2 := S_lsc27 d (List.replicate d.q.length true)) ((ent_freeze _ [14]).trans (ent_of [(6, 6)] rfl (tm_cons rfl (sm_same rfl) (tm_cons rfl (sm_ptr rfl) (tm_cons rfl (.inr ⟨(List.length_replicate).symm, by simp, .inr rfl, fun k hk => .inr ?_⟩) tm_nil))) (hp_cons rfl rfl (sm_same rfl) hp_nil))) ?_
    · show Value.bool true = Value.bool ((List.replicate d.q.length true).getD k false)
      rw [List.getD_eq_getElem?_getD, List.getElem?_replicate, if_pos hk]; rfl
    rw [lsc_C27 d _ 0 _, toDk_A, bLs_A, crash_all d _ rfl, toDk_sv]
    have vs := hv.sync
    have hs2 := sync_fun false false d hv.so (by omega)
    have hc2 := crash_fun false false d false (List.replicate d.q.length true) hv.so (by omega)
    rw [crash_all d _ rfl] at hc2
    have lls := cont_len hv.so
    have hr := rsame_fun false false false false (syncD d) (syncD d) vs.smD vs.smD (by show (cont d).length + 0 < _; omega)
    exact ⟨hc2, hs2, hr, trivial, tt_then (sameD_refl _) (post_tmp rfl (sm_same rfl))⟩
theorem lsc_law {x0 x1 : AV} (h0 : Typed C.tt 6 22 x0) (h1 : Typed C.tt 6 29 x1) : Fun C P F_lsc [x0, x1] [] (.sb true) [] := by
  obtain ⟨l, ea, e3, e4, _, hx, s0⟩ := ty_raws h0
  obtain ⟨dn, ez, _, s1⟩ := ty_bools h1
  exact (lsc_fun ea e3 e4 l hx ez dn).sim ⟨s0, s1 _, trivial⟩ trivial
end Go.Bu.W

