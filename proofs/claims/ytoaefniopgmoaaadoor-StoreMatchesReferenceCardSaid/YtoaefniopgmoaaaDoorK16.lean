/- The reference's round. -/
import Derived.Test.YtoaefniopgmoaaaDoorK15
import Derived.Test.YtoaefniopgmoaaaDoorK12
namespace Go.Bu.W
open Sp
abbrev refArr (f : Nat → Nat) : AV := .arr 5 5 (fun x => .arr 5 1 (fun y => u64 (f (x + 5 * y))))
def crLeft : List AV → Option (AV × List (Nat × Blk))
 | [n, w] => some (u64 (rotl (asN w) (asN n)), [])
 | _ => none
def flatN (F : Nat → AV) (p : Nat) : Nat := match F (p % 5) with | .arr _ _ g => asN (g (p / 5)) | _ => 0
def crRRound : List AV → Option (AV × List (Nat × Blk))
 | [.arr _ _ F, k] => some (refArr (roundN (flatN F) (asN k)), [])
 | _ => none
def wordsR : AV := .arr 24 1 (fun i => u64 (wordsN i))
def crRS (g : Nat) (args : List AV) (H : List (Nat × Blk)) : Option (AV × List (Nat × Blk)) :=
 sel (Nat.beq g F_left) (crLeft args) <| sel (Nat.beq g F_rround) (crRRound args) <| sel (Nat.beq g F_rwords) (some (wordsR, [])) <| sel (Nat.beq g F_rsum) (crSum args) <| sel (Nat.beq g F_rof) (crOf args) <|
 sel (Nat.beq g F_rstream) (crStream args) <| crBase g args H
def wayS (keep : List Nat) (nt : Nat) (cuts : List Nat) : Way := ⟨crRS, fun _ => false, keep, [], nt, cuts, []⟩
def w_left : Way := wayS [0, 1, 4] 13 []
def w_rwords : Way := wayS [0] 2 []
def w_rround : Way := wayS [0, 1, 2, 4, 5, 6, 7, 8, 9, 10, 11, 12, 13, 14, 15, 16, 17, 20, 50, 66, 81, 110, 114, 132, 136] 173 []
def colN (f : Nat → Nat) (x : Nat) : Nat := f x ^^^ f (x + 5) ^^^ f (x + 10) ^^^ f (x + 15) ^^^ f (x + 20)
def part (u v : Nat → Nat) (x y p : Nat) : Nat := if p % 5 < x ∨ (p % 5 = x ∧ p / 5 < y) then u p else v p
def dlN (f : Nat → Nat) (x : Nat) : Nat := cN f 25 ((x + 4) % 5) ^^^ rotl (cN f 25 ((x + 1) % 5)) 1
def rhoN (th : Nat → Nat) : Nat → Nat → Nat
 | 0 => th
 | t + 1 => fun j => if j = (pos t).1 + 5 * (pos t).2 then rotl (rhoN th t j) ((t + 1) * (t + 2) / 2 % 64) else rhoN th t j
def bR (g : Nat → Nat) : Nat → Nat → Nat
 | 0 => fun _ => 0
 | n + 1 => fun p => if p = n % 5 + 5 * ((2 * (n / 5) + 3 * (n % 5)) % 5) then g (n / 5 + 5 * (n % 5)) else bR g n p
def I_q0 (f : Nat → Nat) (k i : Nat) : St := { tm := [(1, u64 k), (2, .ptr 2 []), (4, .ptr 4 []), (5, .ptr 5 []), (6, i64 i)], hp := [(2, .c (refArr f)), (4, .c (refArr fun _ => 0)), (5, .c (aw 5 (fun x => if x < i then colN f x else 0)))], seen := [2, 4, 5] }
def I_q1 (f : Nat → Nat) (k i : Nat) : St := { tm := [(1, u64 k), (2, .ptr 2 []), (4, .ptr 4 []), (5, .ptr 5 []), (7, i64 i)], hp := [(2, .c (refArr (part (theta f) f i 0))), (4, .c (refArr fun _ => 0)), (5, .c (aw 5 (cN f 25)))], seen := [2, 4, 5] }
def I_q2 (f : Nat → Nat) (k i y : Nat) : St := { tm := [(1, u64 k), (2, .ptr 2 []), (4, .ptr 4 []), (5, .ptr 5 []), (7, i64 i), (8, u64 (dlN f i)), (9, i64 y)], hp := [(2, .c (refArr (part (theta f) f i y))), (4, .c (refArr fun _ => 0)), (5, .c (aw 5 (cN f 25)))], seen := [2, 4, 5] }
def I_q3 (f : Nat → Nat) (k t : Nat) : St := { tm := [(1, u64 k), (2, .ptr 2 []), (4, .ptr 4 []), (10, i64 (pos t).1), (11, i64 (pos t).2), (12, i64 t)], hp := [(2, .c (refArr (rhoN (theta f) t))), (4, .c (refArr fun _ => 0))], seen := [2, 4] }
def I_q4 (g : Nat → Nat) (k i : Nat) : St := { tm := [(1, u64 k), (2, .ptr 2 []), (4, .ptr 4 []), (13, .ptr 13 []), (14, i64 i)], hp := [(2, .c (refArr g)), (4, .c (refArr fun _ => 0)), (13, .c (refArr (bR g (5 * i))))], seen := [2, 4, 13] }
def I_q5 (g : Nat → Nat) (k i j : Nat) : St := { tm := [(1, u64 k), (2, .ptr 2 []), (4, .ptr 4 []), (13, .ptr 13 []), (14, i64 i), (15, i64 j)], hp := [(2, .c (refArr g)), (4, .c (refArr fun _ => 0)), (13, .c (refArr (bR g (5 * i + j))))], seen := [2, 4, 13] }
def I_q6 (g b : Nat → Nat) (k i : Nat) : St := { tm := [(1, u64 k), (2, .ptr 2 []), (4, .ptr 4 []), (13, .ptr 13 []), (16, i64 i)], hp := [(2, .c (refArr (part (chi b) g i 0))), (4, .c (refArr fun _ => 0)), (13, .c (refArr b))], seen := [2, 4, 13] }
def I_q7 (g b : Nat → Nat) (k i j : Nat) : St := { tm := [(1, u64 k), (2, .ptr 2 []), (4, .ptr 4 []), (13, .ptr 13 []), (16, i64 i), (17, i64 j)], hp := [(2, .c (refArr (part (chi b) g i j))), (4, .c (refArr fun _ => 0)), (13, .c (refArr b))], seen := [2, 4, 13] }
theorem left_A (n w : Nat) {D : Dom} (K : Nat) (Φ : Ex → St → Prop) :
 (Holds C P 13 D K Φ (vc C w_left b_left [] (start [i64 n, u64 w] []) lf)) =
 (((0 : Int) ≤ ((n : Nat) : Int)) ∧
 ((I64 ((64 : Int) - ((n : Nat) : Int))) ∧
 (((0 : Int) ≤ ((64 : Int) - ((n : Nat) : Int))) ∧
 (Φ Ex.ret (St.mk [((0 : Nat), (AV.v (Value.int IntKind.i64 ((n : Nat) : Int)))), ((1 : Nat), (AV.v (Value.int IntKind.u64 ((w : Nat) : Int)))), ((4 : Nat), (AV.v (Value.int IntKind.u64 (bOr IntKind.u64 (bShl IntKind.u64 ((w : Nat) : Int) ((n : Nat) : Int)) (bShr IntKind.u64 ((w : Nat) : Int) ((64 : Int) - ((n : Nat) : Int)))))))] [] []))))) := by kernel_rfl
theorem rwords_A  {D : Dom} (K : Nat) (Φ : Ex → St → Prop) :
 (Holds C P 2 D K Φ (vc C w_rwords b_rwords [] (start [] []) lf)) =
 ((((24 : Nat) = (24 : Nat)) ∧ (((1 : Nat) = (1 : Nat)) ∧ (∀ (i : Nat), ((i < (24 : Nat)) → (shp (AV.v (Value.int IntKind.u64 (0 : Int))) (layParts (fun (x : Nat) => (AV.v (Value.int IntKind.u64 (0 : Int)))) [((0 : Nat), (AV.v (Value.int IntKind.u64 (1 : Int)))), ((1 : Nat), (AV.v (Value.int IntKind.u64 (32898 : Int)))), ((2 : Nat), (AV.v (Value.int IntKind.u64 (9223372036854808714 : Int)))), ((3 : Nat), (AV.v (Value.int IntKind.u64 (9223372039002292224 : Int)))), ((4 : Nat), (AV.v (Value.int IntKind.u64 (32907 : Int)))), ((5 : Nat), (AV.v (Value.int IntKind.u64 (2147483649 : Int)))), ((6 : Nat), (AV.v (Value.int IntKind.u64 (9223372039002292353 : Int)))), ((7 : Nat), (AV.v (Value.int IntKind.u64 (9223372036854808585 : Int)))), ((8 : Nat), (AV.v (Value.int IntKind.u64 (138 : Int)))), ((9 : Nat), (AV.v (Value.int IntKind.u64 (136 : Int)))), ((10 : Nat), (AV.v (Value.int IntKind.u64 (2147516425 : Int)))), ((11 : Nat), (AV.v (Value.int IntKind.u64 (2147483658 : Int)))), ((12 : Nat), (AV.v (Value.int IntKind.u64 (2147516555 : Int)))), ((13 : Nat), (AV.v (Value.int IntKind.u64 (9223372036854775947 : Int)))), ((14 : Nat), (AV.v (Value.int IntKind.u64 (9223372036854808713 : Int)))), ((15 : Nat), (AV.v (Value.int IntKind.u64 (9223372036854808579 : Int)))), ((16 : Nat), (AV.v (Value.int IntKind.u64 (9223372036854808578 : Int)))), ((17 : Nat), (AV.v (Value.int IntKind.u64 (9223372036854775936 : Int)))), ((18 : Nat), (AV.v (Value.int IntKind.u64 (32778 : Int)))), ((19 : Nat), (AV.v (Value.int IntKind.u64 (9223372039002259466 : Int)))), ((20 : Nat), (AV.v (Value.int IntKind.u64 (9223372039002292353 : Int)))), ((21 : Nat), (AV.v (Value.int IntKind.u64 (9223372036854808704 : Int)))), ((22 : Nat), (AV.v (Value.int IntKind.u64 (2147483649 : Int)))), ((23 : Nat), (AV.v (Value.int IntKind.u64 (9223372039002292232 : Int))))] i)))))) ∧
 (Φ Ex.ret (St.mk [((0 : Nat), (AV.ptr (0 : Nat) []))] [((0 : Nat), (Blk.c (AV.arr (24 : Nat) (1 : Nat) (layParts (fun (x : Nat) => (AV.v (Value.int IntKind.u64 (0 : Int)))) [((0 : Nat), (AV.v (Value.int IntKind.u64 (1 : Int)))), ((1 : Nat), (AV.v (Value.int IntKind.u64 (32898 : Int)))), ((2 : Nat), (AV.v (Value.int IntKind.u64 (9223372036854808714 : Int)))), ((3 : Nat), (AV.v (Value.int IntKind.u64 (9223372039002292224 : Int)))), ((4 : Nat), (AV.v (Value.int IntKind.u64 (32907 : Int)))), ((5 : Nat), (AV.v (Value.int IntKind.u64 (2147483649 : Int)))), ((6 : Nat), (AV.v (Value.int IntKind.u64 (9223372039002292353 : Int)))), ((7 : Nat), (AV.v (Value.int IntKind.u64 (9223372036854808585 : Int)))), ((8 : Nat), (AV.v (Value.int IntKind.u64 (138 : Int)))), ((9 : Nat), (AV.v (Value.int IntKind.u64 (136 : Int)))), ((10 : Nat), (AV.v (Value.int IntKind.u64 (2147516425 : Int)))), ((11 : Nat), (AV.v (Value.int IntKind.u64 (2147483658 : Int)))), ((12 : Nat), (AV.v (Value.int IntKind.u64 (2147516555 : Int)))), ((13 : Nat), (AV.v (Value.int IntKind.u64 (9223372036854775947 : Int)))), ((14 : Nat), (AV.v (Value.int IntKind.u64 (9223372036854808713 : Int)))), ((15 : Nat), (AV.v (Value.int IntKind.u64 (9223372036854808579 : Int)))), ((16 : Nat), (AV.v (Value.int IntKind.u64 (9223372036854808578 : Int)))), ((17 : Nat), (AV.v (Value.int IntKind.u64 (9223372036854775936 : Int)))), ((18 : Nat), (AV.v (Value.int IntKind.u64 (32778 : Int)))), ((19 : Nat), (AV.v (Value.int IntKind.u64 (9223372039002259466 : Int)))), ((20 : Nat), (AV.v (Value.int IntKind.u64 (9223372039002292353 : Int)))), ((21 : Nat), (AV.v (Value.int IntKind.u64 (9223372036854808704 : Int)))), ((22 : Nat), (AV.v (Value.int IntKind.u64 (2147483649 : Int)))), ((23 : Nat), (AV.v (Value.int IntKind.u64 (9223372039002292232 : Int))))]))))] [(0 : Nat)]))) := by kernel_rfl
theorem rround_A (f : Nat → Nat) (k : Nat) {D : Dom} (K : Nat) (Φ : Ex → St → Prop) :
 (Holds C P 173 D K Φ (vc C w_rround b_rround [] (start [refArr f, u64 k] []) lf)) =
 ((((5 : Nat) = (5 : Nat)) ∧ (((1 : Nat) = (1 : Nat)) ∧ (∀ (i : Nat), ((i < (5 : Nat)) → ((true = true) ∧ (Bool.true = true)))))) ∧
 (LoopOK C P (173 : Nat) D K (bodyAt b_rround [1, 1, 0, 1, 0]) (St.mk [((0 : Nat), (AV.arr (5 : Nat) (5 : Nat) (fun (x : Nat) => (AV.arr (5 : Nat) (1 : Nat) (fun (y : Nat) => (AV.v (Value.int IntKind.u64 (((f (x + ((5 : Nat) * y))) : Nat) : Int)))))))), ((1 : Nat), (AV.v (Value.int IntKind.u64 ((k : Nat) : Int)))), ((2 : Nat), (AV.ptr (2 : Nat) [])), ((4 : Nat), (AV.ptr (4 : Nat) [])), ((5 : Nat), (AV.ptr (5 : Nat) [])), ((6 : Nat), (AV.v (Value.int IntKind.i64 (0 : Int))))] [((2 : Nat), (Blk.c (AV.arr (5 : Nat) (5 : Nat) (fun (x : Nat) => (AV.arr (5 : Nat) (1 : Nat) (fun (y : Nat) => (AV.v (Value.int IntKind.u64 (((f (x + ((5 : Nat) * y))) : Nat) : Int))))))))), ((4 : Nat), (Blk.c (AV.arr (5 : Nat) (5 : Nat) (fun (x : Nat) => (AV.arr (5 : Nat) (1 : Nat) (fun (x1 : Nat) => (AV.v (Value.int IntKind.u64 (0 : Int))))))))), ((5 : Nat), (Blk.c (AV.arr (5 : Nat) (1 : Nat) (fun (x : Nat) => (AV.v (Value.int IntKind.u64 (0 : Int)))))))] [(5 : Nat), (4 : Nat), (2 : Nat)]) (fun (e : Ex) (S' : St) => Holds C P (173 : Nat) D K Φ (after C w_rround b_rround [1, 1, 0, 1, 0] [] lf e S')))) := by kernel_rfl
noncomputable abbrev bd_rround_0 : Code := bodyAt (b_rround) [1, 1, 0, 1, 0]
theorem ok_rround_0 : codeOK bd_rround_0 = true := by kernel_rfl
noncomputable abbrev rest_rround_0 (D : Dom) (K : Nat) (Φ : Ex → St → Prop) : Ex → St → Prop := fun e S' => Holds C P 173 D K Φ (after C w_rround (b_rround) [1, 1, 0, 1, 0] [] lf e S')
theorem rround_L0 (f : Nat → Nat) (k i : Nat) {D : Dom} (K : Nat) (Φ : Ex → St → Prop) :
 (Holds C P 173 D K (RoundQ C 173 D K (I_q0 f k) (fun i => i ≤ 5) (fun i => 5 - i) ((fun i => 5 - i) (i)) (rest_rround_0 D K Φ)) (vc C w_rround bd_rround_0 [] ((I_q0 f k) (i)) lf)) =
 (((decide (((i : Nat) : Int) < (5 : Int))) = true → 
 ((((0 : Int) ≤ ((i : Nat) : Int)) ∧ (((i : Nat) : Int) < (5 : Int))) ∧
 ((((0 : Int) ≤ (0 : Int)) ∧ ((0 : Int) < (5 : Int))) ∧
 ((((0 : Int) ≤ ((i : Nat) : Int)) ∧ (((i : Nat) : Int) < (5 : Int))) ∧
 ((((0 : Int) ≤ (1 : Int)) ∧ ((1 : Int) < (5 : Int))) ∧
 ((((0 : Int) ≤ ((i : Nat) : Int)) ∧ (((i : Nat) : Int) < (5 : Int))) ∧
 ((((0 : Int) ≤ (2 : Int)) ∧ ((2 : Int) < (5 : Int))) ∧
 ((((0 : Int) ≤ ((i : Nat) : Int)) ∧ (((i : Nat) : Int) < (5 : Int))) ∧
 ((((0 : Int) ≤ (3 : Int)) ∧ ((3 : Int) < (5 : Int))) ∧
 ((((0 : Int) ≤ ((i : Nat) : Int)) ∧ (((i : Nat) : Int) < (5 : Int))) ∧
 ((((0 : Int) ≤ (4 : Int)) ∧ ((4 : Int) < (5 : Int))) ∧
 ((((0 : Int) ≤ ((i : Nat) : Int)) ∧ (((i : Nat) : Int) < (5 : Int))) ∧
 ((I64 (((i + 1) : Nat) : Int)) ∧
 ((RoundQ C 173 D K (I_q0 f k) (fun i => i ≤ 5) (fun i => 5 - i) ((fun i => 5 - i) (i)) (rest_rround_0 D K Φ)) Ex.normal (St.mk [((1 : Nat), (AV.v (Value.int IntKind.u64 ((k : Nat) : Int)))), ((2 : Nat), (AV.ptr (2 : Nat) [])), ((4 : Nat), (AV.ptr (4 : Nat) [])), ((5 : Nat), (AV.ptr (5 : Nat) [])), ((6 : Nat), (AV.v (Value.int IntKind.i64 (((i + 1) : Nat) : Int)))), ((20 : Nat), (AV.v (Value.bool true)))] [((2 : Nat), (Blk.c (AV.arr (5 : Nat) (5 : Nat) (fun (x : Nat) => (AV.arr (5 : Nat) (1 : Nat) (fun (y : Nat) => (AV.v (Value.int IntKind.u64 (((f (x + ((5 : Nat) * y))) : Nat) : Int))))))))), ((4 : Nat), (Blk.c (AV.arr (5 : Nat) (5 : Nat) (fun (x : Nat) => (AV.arr (5 : Nat) (1 : Nat) (fun (y : Nat) => (AV.v (Value.int IntKind.u64 (((0 : Nat) : Nat) : Int))))))))), ((5 : Nat), (Blk.c (AV.arr (5 : Nat) (1 : Nat) (fun (j : Nat) => (if (j = i) then (AV.v (Value.int IntKind.u64 (bXor IntKind.u64 (bXor IntKind.u64 (bXor IntKind.u64 (bXor IntKind.u64 (((f i) : Nat) : Int) (((f (i + (5 : Nat))) : Nat) : Int)) (((f (i + (10 : Nat))) : Nat) : Int)) (((f (i + (15 : Nat))) : Nat) : Int)) (((f (i + (20 : Nat))) : Nat) : Int)))) else (AV.v (Value.int IntKind.u64 (((if (j < i) then (colN f j) else (0 : Nat)) : Nat) : Int))))))))] [(2 : Nat), (4 : Nat), (5 : Nat)]))))))))))))))) ∧
 ((decide (((i : Nat) : Int) < (5 : Int))) = false → 
 (LoopOK C P (173 : Nat) D K (bodyAt b_rround [1, 1, 1, 0, 1, 0]) (St.mk [((1 : Nat), (AV.v (Value.int IntKind.u64 ((k : Nat) : Int)))), ((2 : Nat), (AV.ptr (2 : Nat) [])), ((4 : Nat), (AV.ptr (4 : Nat) [])), ((5 : Nat), (AV.ptr (5 : Nat) [])), ((6 : Nat), (AV.v (Value.int IntKind.i64 ((i : Nat) : Int)))), ((7 : Nat), (AV.v (Value.int IntKind.i64 (0 : Int)))), ((20 : Nat), (AV.v (Value.bool false)))] [((2 : Nat), (Blk.c (AV.arr (5 : Nat) (5 : Nat) (fun (x : Nat) => (AV.arr (5 : Nat) (1 : Nat) (fun (y : Nat) => (AV.v (Value.int IntKind.u64 (((f (x + ((5 : Nat) * y))) : Nat) : Int))))))))), ((4 : Nat), (Blk.c (AV.arr (5 : Nat) (5 : Nat) (fun (x : Nat) => (AV.arr (5 : Nat) (1 : Nat) (fun (y : Nat) => (AV.v (Value.int IntKind.u64 (((0 : Nat) : Nat) : Int))))))))), ((5 : Nat), (Blk.c (AV.arr (5 : Nat) (1 : Nat) (fun (i1 : Nat) => (AV.v (Value.int IntKind.u64 (((if (i1 < i) then (colN f i1) else (0 : Nat)) : Nat) : Int)))))))] [(2 : Nat), (4 : Nat), (5 : Nat)]) (fun (e : Ex) (S' : St) => Holds C P (173 : Nat) D K Φ (after C w_rround b_rround [1, 1, 1, 0, 1, 0] [] lf e S'))))) := by kernel_rfl
noncomputable abbrev bd_rround_1 : Code := bodyAt (b_rround) [1, 1, 1, 0, 1, 0]
theorem ok_rround_1 : codeOK bd_rround_1 = true := by kernel_rfl
noncomputable abbrev rest_rround_1 (D : Dom) (K : Nat) (Φ : Ex → St → Prop) : Ex → St → Prop := fun e S' => Holds C P 173 D K Φ (after C w_rround (b_rround) [1, 1, 1, 0, 1, 0] [] lf e S')
theorem rround_L1 (f : Nat → Nat) (k i : Nat) {D : Dom} (K : Nat) (Φ : Ex → St → Prop) :
 (Holds C P 173 D K (RoundQ C 173 D K (I_q1 f k) (fun i => i ≤ 5) (fun i => 5 - i) ((fun i => 5 - i) (i)) (rest_rround_1 D K Φ)) (vc C w_rround bd_rround_1 [] ((I_q1 f k) (i)) lf)) =
 (((decide (((i : Nat) : Int) < (5 : Int))) = true → 
 ((I64 (((i + 4) : Nat) : Int)) ∧
 (((5 : Int) ≠ (0 : Int)) ∧
 ((((0 : Int) ≤ ((((i + 4) % 5) : Nat) : Int)) ∧ (((((i + 4) % 5) : Nat) : Int) < (5 : Int))) ∧
 ((I64 (((i + 1) : Nat) : Int)) ∧
 (((5 : Int) ≠ (0 : Int)) ∧
 ((((0 : Int) ≤ ((((i + 1) % 5) : Nat) : Int)) ∧ (((((i + 1) % 5) : Nat) : Int) < (5 : Int))) ∧
 (Fun C P (72 : Nat) [(AV.v (Value.int IntKind.i64 (1 : Int))), (AV.v (Value.int IntKind.u64 (((Sp.cN f (25 : Nat) ((i + 1) % 5)) : Nat) : Int)))] [] (AV.v (Value.int IntKind.u64 (((Sp.rotl (Sp.cN f (25 : Nat) ((i + 1) % 5)) (1 : Nat)) : Nat) : Int))) [] ∧
 (True ∧
 (LoopOK C P (173 : Nat) D K (bodyAt bd_rround_1 [1, 0, 0, 1, 1, 0]) (St.mk [((1 : Nat), (AV.v (Value.int IntKind.u64 ((k : Nat) : Int)))), ((2 : Nat), (AV.ptr (2 : Nat) [])), ((4 : Nat), (AV.ptr (4 : Nat) [])), ((5 : Nat), (AV.ptr (5 : Nat) [])), ((7 : Nat), (AV.v (Value.int IntKind.i64 ((i : Nat) : Int)))), ((8 : Nat), (AV.v (Value.int IntKind.u64 (bXor IntKind.u64 (((Sp.cN f (25 : Nat) ((i + 4) % 5)) : Nat) : Int) (((Sp.rotl (Sp.cN f (25 : Nat) ((i + 1) % 5)) (1 : Nat)) : Nat) : Int))))), ((9 : Nat), (AV.v (Value.int IntKind.i64 (0 : Int)))), ((50 : Nat), (AV.v (Value.bool true)))] [((2 : Nat), (Blk.c (AV.arr (5 : Nat) (5 : Nat) (fun (x : Nat) => (AV.arr (5 : Nat) (1 : Nat) (fun (y : Nat) => (AV.v (Value.int IntKind.u64 (((part (Sp.theta f) f i (0 : Nat) (x + ((5 : Nat) * y))) : Nat) : Int))))))))), ((4 : Nat), (Blk.c (AV.arr (5 : Nat) (5 : Nat) (fun (x : Nat) => (AV.arr (5 : Nat) (1 : Nat) (fun (y : Nat) => (AV.v (Value.int IntKind.u64 (((0 : Nat) : Nat) : Int))))))))), ((5 : Nat), (Blk.c (AV.arr (5 : Nat) (1 : Nat) (fun (i1 : Nat) => (AV.v (Value.int IntKind.u64 (((Sp.cN f (25 : Nat) i1) : Nat) : Int)))))))] [(2 : Nat), (4 : Nat), (5 : Nat)]) (fun (e : Ex) (S' : St) => Holds C P (173 : Nat) D K (RoundQ C 173 D K (I_q1 f k) (fun i => i ≤ 5) (fun i => 5 - i) ((fun i => 5 - i) (i)) (rest_rround_1 D K Φ)) (after C w_rround bd_rround_1 [1, 0, 0, 1, 1, 0] [] lf e S')))))))))))) ∧
 ((decide (((i : Nat) : Int) < (5 : Int))) = false → 
 (LoopOK C P (173 : Nat) D K (bodyAt b_rround [1, 1, 1, 1, 1, 1, 0, 1, 0]) (St.mk [((1 : Nat), (AV.v (Value.int IntKind.u64 ((k : Nat) : Int)))), ((2 : Nat), (AV.ptr (2 : Nat) [])), ((4 : Nat), (AV.ptr (4 : Nat) [])), ((5 : Nat), (AV.ptr (5 : Nat) [])), ((7 : Nat), (AV.v (Value.int IntKind.i64 ((i : Nat) : Int)))), ((10 : Nat), (AV.v (Value.int IntKind.i64 (1 : Int)))), ((11 : Nat), (AV.v (Value.int IntKind.i64 (0 : Int)))), ((12 : Nat), (AV.v (Value.int IntKind.i64 (0 : Int)))), ((50 : Nat), (AV.v (Value.bool false)))] [((2 : Nat), (Blk.c (AV.arr (5 : Nat) (5 : Nat) (fun (x : Nat) => (AV.arr (5 : Nat) (1 : Nat) (fun (y : Nat) => (AV.v (Value.int IntKind.u64 (((part (Sp.theta f) f i (0 : Nat) (x + ((5 : Nat) * y))) : Nat) : Int))))))))), ((4 : Nat), (Blk.c (AV.arr (5 : Nat) (5 : Nat) (fun (x : Nat) => (AV.arr (5 : Nat) (1 : Nat) (fun (y : Nat) => (AV.v (Value.int IntKind.u64 (((0 : Nat) : Nat) : Int))))))))), ((5 : Nat), (Blk.c (AV.arr (5 : Nat) (1 : Nat) (fun (i1 : Nat) => (AV.v (Value.int IntKind.u64 (((Sp.cN f (25 : Nat) i1) : Nat) : Int)))))))] [(2 : Nat), (4 : Nat), (5 : Nat)]) (fun (e : Ex) (S' : St) => Holds C P (173 : Nat) D K Φ (after C w_rround b_rround [1, 1, 1, 1, 1, 1, 0, 1, 0] [] lf e S'))))) := by kernel_rfl
noncomputable abbrev bd_rround_2 : Code := bodyAt (bd_rround_1) [1, 0, 0, 1, 1, 0]
theorem ok_rround_2 : codeOK bd_rround_2 = true := by kernel_rfl
noncomputable abbrev rest_rround_2 (D : Dom) (K : Nat) (Φ : Ex → St → Prop) : Ex → St → Prop := fun e S' => Holds C P 173 D K Φ (after C w_rround (bd_rround_1) [1, 0, 0, 1, 1, 0] [] lf e S')
theorem rround_L2 (f : Nat → Nat) (k i y : Nat) {D : Dom} (K : Nat) (Φ : Ex → St → Prop) :
 (Holds C P 173 D K (RoundQ C 173 D K (I_q2 f k i) (fun y => y ≤ 5) (fun y => 5 - y) ((fun y => 5 - y) (y)) (rest_rround_2 D K Φ)) (vc C w_rround bd_rround_2 [] ((I_q2 f k i) (y)) lf)) =
 (((decide (((y : Nat) : Int) < (5 : Int))) = true → 
 ((((0 : Int) ≤ ((i : Nat) : Int)) ∧ (((i : Nat) : Int) < (5 : Int))) ∧
 ((((0 : Int) ≤ ((y : Nat) : Int)) ∧ (((y : Nat) : Int) < (5 : Int))) ∧
 ((((0 : Int) ≤ ((i : Nat) : Int)) ∧ (((i : Nat) : Int) < (5 : Int))) ∧
 ((((0 : Int) ≤ ((y : Nat) : Int)) ∧ (((y : Nat) : Int) < (5 : Int))) ∧
 ((I64 (((y + 1) : Nat) : Int)) ∧
 ((RoundQ C 173 D K (I_q2 f k i) (fun y => y ≤ 5) (fun y => 5 - y) ((fun y => 5 - y) (y)) (rest_rround_2 D K Φ)) Ex.normal (St.mk [((1 : Nat), (AV.v (Value.int IntKind.u64 ((k : Nat) : Int)))), ((2 : Nat), (AV.ptr (2 : Nat) [])), ((4 : Nat), (AV.ptr (4 : Nat) [])), ((5 : Nat), (AV.ptr (5 : Nat) [])), ((7 : Nat), (AV.v (Value.int IntKind.i64 ((i : Nat) : Int)))), ((8 : Nat), (AV.v (Value.int IntKind.u64 (((dlN f i) : Nat) : Int)))), ((9 : Nat), (AV.v (Value.int IntKind.i64 (((y + 1) : Nat) : Int)))), ((66 : Nat), (AV.v (Value.bool true)))] [((2 : Nat), (Blk.c (AV.arr (5 : Nat) (5 : Nat) (fun (j : Nat) => (if (j = i) then (AV.arr (5 : Nat) (1 : Nat) (fun (j1 : Nat) => (if (j1 = y) then (AV.v (Value.int IntKind.u64 (bXor IntKind.u64 (((part (Sp.theta f) f i y (i + ((5 : Nat) * y))) : Nat) : Int) (((dlN f i) : Nat) : Int)))) else (AV.v (Value.int IntKind.u64 (((part (Sp.theta f) f i y (i + ((5 : Nat) * j1))) : Nat) : Int)))))) else (AV.arr (5 : Nat) (1 : Nat) (fun (y1 : Nat) => (AV.v (Value.int IntKind.u64 (((part (Sp.theta f) f i y (j + ((5 : Nat) * y1))) : Nat) : Int)))))))))), ((4 : Nat), (Blk.c (AV.arr (5 : Nat) (5 : Nat) (fun (x : Nat) => (AV.arr (5 : Nat) (1 : Nat) (fun (y1 : Nat) => (AV.v (Value.int IntKind.u64 (((0 : Nat) : Nat) : Int))))))))), ((5 : Nat), (Blk.c (AV.arr (5 : Nat) (1 : Nat) (fun (i1 : Nat) => (AV.v (Value.int IntKind.u64 (((Sp.cN f (25 : Nat) i1) : Nat) : Int)))))))] [(2 : Nat), (4 : Nat), (5 : Nat)])))))))) ∧
 ((decide (((y : Nat) : Int) < (5 : Int))) = false → 
 ((I64 (((i + 1) : Nat) : Int)) ∧
 (Φ Ex.normal (St.mk [((1 : Nat), (AV.v (Value.int IntKind.u64 ((k : Nat) : Int)))), ((2 : Nat), (AV.ptr (2 : Nat) [])), ((4 : Nat), (AV.ptr (4 : Nat) [])), ((5 : Nat), (AV.ptr (5 : Nat) [])), ((7 : Nat), (AV.v (Value.int IntKind.i64 (((i + 1) : Nat) : Int)))), ((8 : Nat), (AV.v (Value.int IntKind.u64 (((dlN f i) : Nat) : Int)))), ((9 : Nat), (AV.v (Value.int IntKind.i64 ((y : Nat) : Int)))), ((66 : Nat), (AV.v (Value.bool false)))] [((2 : Nat), (Blk.c (AV.arr (5 : Nat) (5 : Nat) (fun (x : Nat) => (AV.arr (5 : Nat) (1 : Nat) (fun (y1 : Nat) => (AV.v (Value.int IntKind.u64 (((part (Sp.theta f) f i y (x + ((5 : Nat) * y1))) : Nat) : Int))))))))), ((4 : Nat), (Blk.c (AV.arr (5 : Nat) (5 : Nat) (fun (x : Nat) => (AV.arr (5 : Nat) (1 : Nat) (fun (y1 : Nat) => (AV.v (Value.int IntKind.u64 (((0 : Nat) : Nat) : Int))))))))), ((5 : Nat), (Blk.c (AV.arr (5 : Nat) (1 : Nat) (fun (i1 : Nat) => (AV.v (Value.int IntKind.u64 (((Sp.cN f (25 : Nat) i1) : Nat) : Int)))))))] [(2 : Nat), (4 : Nat), (5 : Nat)]))))) := by kernel_rfl
noncomputable abbrev bd_rround_3 : Code := bodyAt (b_rround) [1, 1, 1, 1, 1, 1, 0, 1, 0]
theorem ok_rround_3 : codeOK bd_rround_3 = true := by kernel_rfl
noncomputable abbrev rest_rround_3 (D : Dom) (K : Nat) (Φ : Ex → St → Prop) : Ex → St → Prop := fun e S' => Holds C P 173 D K Φ (after C w_rround (b_rround) [1, 1, 1, 1, 1, 1, 0, 1, 0] [] lf e S')
theorem rround_L3 (f : Nat → Nat) (k i : Nat) {D : Dom} (K : Nat) (Φ : Ex → St → Prop) :
 (Holds C P 173 D K (RoundQ C 173 D K (I_q3 f k) (fun i => i ≤ 24) (fun i => 24 - i) ((fun i => 24 - i) (i)) (rest_rround_3 D K Φ)) (vc C w_rround bd_rround_3 [] ((I_q3 f k) (i)) lf)) =
 (((decide (((i : Nat) : Int) < (24 : Int))) = true → 
 ((I64 (((i + 1) : Nat) : Int)) ∧
 ((I64 (((i + 2) : Nat) : Int)) ∧
 ((I64 ((((i + 1) * (i + 2)) : Nat) : Int)) ∧
 (((2 : Int) ≠ (0 : Int)) ∧
 ((I64 (((((i + 1) * (i + 2)) / 2) : Nat) : Int)) ∧
 (((64 : Int) ≠ (0 : Int)) ∧
 ((((0 : Int) ≤ (((Prod.fst (pos i)) : Nat) : Int)) ∧ ((((Prod.fst (pos i)) : Nat) : Int) < (5 : Int))) ∧
 ((((0 : Int) ≤ (((Prod.snd (pos i)) : Nat) : Int)) ∧ ((((Prod.snd (pos i)) : Nat) : Int) < (5 : Int))) ∧
 (Fun C P (72 : Nat) [(AV.v (Value.int IntKind.i64 ((((((i + 1) * (i + 2)) / 2) % 64) : Nat) : Int))), (AV.v (Value.int IntKind.u64 (((rhoN (Sp.theta f) i ((Prod.fst (pos i)) + ((5 : Nat) * (Prod.snd (pos i))))) : Nat) : Int)))] [] (AV.v (Value.int IntKind.u64 (((Sp.rotl (rhoN (Sp.theta f) i ((Prod.fst (pos i)) + ((5 : Nat) * (Prod.snd (pos i))))) ((((i + 1) * (i + 2)) / 2) % 64)) : Nat) : Int))) [] ∧
 (True ∧
 ((((0 : Int) ≤ (((Prod.fst (pos i)) : Nat) : Int)) ∧ ((((Prod.fst (pos i)) : Nat) : Int) < (5 : Int))) ∧
 ((((0 : Int) ≤ (((Prod.snd (pos i)) : Nat) : Int)) ∧ ((((Prod.snd (pos i)) : Nat) : Int) < (5 : Int))) ∧
 ((I64 (((2 * (Prod.fst (pos i))) : Nat) : Int)) ∧
 ((I64 (((3 * (Prod.snd (pos i))) : Nat) : Int)) ∧
 ((I64 ((((2 * (Prod.fst (pos i))) + (3 * (Prod.snd (pos i)))) : Nat) : Int)) ∧
 (((5 : Int) ≠ (0 : Int)) ∧
 ((I64 (((i + 1) : Nat) : Int)) ∧
 ((RoundQ C 173 D K (I_q3 f k) (fun i => i ≤ 24) (fun i => 24 - i) ((fun i => 24 - i) (i)) (rest_rround_3 D K Φ)) Ex.normal (St.mk [((1 : Nat), (AV.v (Value.int IntKind.u64 ((k : Nat) : Int)))), ((2 : Nat), (AV.ptr (2 : Nat) [])), ((4 : Nat), (AV.ptr (4 : Nat) [])), ((10 : Nat), (AV.v (Value.int IntKind.i64 (((Prod.snd (pos i)) : Nat) : Int)))), ((11 : Nat), (AV.v (Value.int IntKind.i64 (((((2 * (Prod.fst (pos i))) + (3 * (Prod.snd (pos i)))) % 5) : Nat) : Int)))), ((12 : Nat), (AV.v (Value.int IntKind.i64 (((i + 1) : Nat) : Int)))), ((81 : Nat), (AV.v (Value.bool true)))] [((2 : Nat), (Blk.c (AV.arr (5 : Nat) (5 : Nat) (fun (j : Nat) => (if (j = (Prod.fst (pos i))) then (AV.arr (5 : Nat) (1 : Nat) (fun (j1 : Nat) => (if (j1 = (Prod.snd (pos i))) then (AV.v (Value.int IntKind.u64 (((Sp.rotl (rhoN (Sp.theta f) i ((Prod.fst (pos i)) + ((5 : Nat) * (Prod.snd (pos i))))) ((((i + 1) * (i + 2)) / 2) % 64)) : Nat) : Int))) else (AV.v (Value.int IntKind.u64 (((rhoN (Sp.theta f) i ((Prod.fst (pos i)) + ((5 : Nat) * j1))) : Nat) : Int)))))) else (AV.arr (5 : Nat) (1 : Nat) (fun (y : Nat) => (AV.v (Value.int IntKind.u64 (((rhoN (Sp.theta f) i (j + ((5 : Nat) * y))) : Nat) : Int)))))))))), ((4 : Nat), (Blk.c (AV.arr (5 : Nat) (5 : Nat) (fun (x : Nat) => (AV.arr (5 : Nat) (1 : Nat) (fun (y : Nat) => (AV.v (Value.int IntKind.u64 (((0 : Nat) : Nat) : Int)))))))))] [(2 : Nat), (4 : Nat)])))))))))))))))))))) ∧
 ((decide (((i : Nat) : Int) < (24 : Int))) = false → 
 ((((5 : Nat) = (5 : Nat)) ∧ (((5 : Nat) = (5 : Nat)) ∧ (∀ (i1 : Nat), ((i1 < (5 : Nat)) → (((5 : Nat) = (5 : Nat)) ∧ (((1 : Nat) = (1 : Nat)) ∧ (∀ (i2 : Nat), ((i2 < (5 : Nat)) → ((true = true) ∧ (true = true)))))))))) ∧
 (LoopOK C P (173 : Nat) D K (bodyAt b_rround [1, 1, 1, 1, 1, 1, 1, 1, 0, 1, 0]) (St.mk [((1 : Nat), (AV.v (Value.int IntKind.u64 ((k : Nat) : Int)))), ((2 : Nat), (AV.ptr (2 : Nat) [])), ((4 : Nat), (AV.ptr (4 : Nat) [])), ((10 : Nat), (AV.v (Value.int IntKind.i64 (((Prod.fst (pos i)) : Nat) : Int)))), ((11 : Nat), (AV.v (Value.int IntKind.i64 (((Prod.snd (pos i)) : Nat) : Int)))), ((12 : Nat), (AV.v (Value.int IntKind.i64 ((i : Nat) : Int)))), ((13 : Nat), (AV.ptr (13 : Nat) [])), ((14 : Nat), (AV.v (Value.int IntKind.i64 (0 : Int)))), ((81 : Nat), (AV.v (Value.bool false)))] [((2 : Nat), (Blk.c (AV.arr (5 : Nat) (5 : Nat) (fun (x : Nat) => (AV.arr (5 : Nat) (1 : Nat) (fun (y : Nat) => (AV.v (Value.int IntKind.u64 (((rhoN (Sp.theta f) i (x + ((5 : Nat) * y))) : Nat) : Int))))))))), ((4 : Nat), (Blk.c (AV.arr (5 : Nat) (5 : Nat) (fun (x : Nat) => (AV.arr (5 : Nat) (1 : Nat) (fun (y : Nat) => (AV.v (Value.int IntKind.u64 (((0 : Nat) : Nat) : Int))))))))), ((13 : Nat), (Blk.c (AV.arr (5 : Nat) (5 : Nat) (fun (x : Nat) => (AV.arr (5 : Nat) (1 : Nat) (fun (x1 : Nat) => (AV.v (Value.int IntKind.u64 (0 : Int)))))))))] [(13 : Nat), (2 : Nat), (4 : Nat)]) (fun (e : Ex) (S' : St) => Holds C P (173 : Nat) D K Φ (after C w_rround b_rround [1, 1, 1, 1, 1, 1, 1, 1, 0, 1, 0] [] lf e S')))))) := by kernel_rfl
noncomputable abbrev bd_rround_4 : Code := bodyAt (b_rround) [1, 1, 1, 1, 1, 1, 1, 1, 0, 1, 0]
theorem ok_rround_4 : codeOK bd_rround_4 = true := by kernel_rfl
noncomputable abbrev rest_rround_4 (D : Dom) (K : Nat) (Φ : Ex → St → Prop) : Ex → St → Prop := fun e S' => Holds C P 173 D K Φ (after C w_rround (b_rround) [1, 1, 1, 1, 1, 1, 1, 1, 0, 1, 0] [] lf e S')
theorem rround_L4 (g : Nat → Nat) (k i : Nat) {D : Dom} (K : Nat) (Φ : Ex → St → Prop) :
 (Holds C P 173 D K (RoundQ C 173 D K (I_q4 g k) (fun i => i ≤ 5) (fun i => 5 - i) ((fun i => 5 - i) (i)) (rest_rround_4 D K Φ)) (vc C w_rround bd_rround_4 [] ((I_q4 g k) (i)) lf)) =
 (((decide (((i : Nat) : Int) < (5 : Int))) = true → 
 (LoopOK C P (173 : Nat) D K (bodyAt bd_rround_4 [1, 0, 0, 1, 0]) (St.mk [((1 : Nat), (AV.v (Value.int IntKind.u64 ((k : Nat) : Int)))), ((2 : Nat), (AV.ptr (2 : Nat) [])), ((4 : Nat), (AV.ptr (4 : Nat) [])), ((13 : Nat), (AV.ptr (13 : Nat) [])), ((14 : Nat), (AV.v (Value.int IntKind.i64 ((i : Nat) : Int)))), ((15 : Nat), (AV.v (Value.int IntKind.i64 (0 : Int)))), ((110 : Nat), (AV.v (Value.bool true)))] [((2 : Nat), (Blk.c (AV.arr (5 : Nat) (5 : Nat) (fun (x : Nat) => (AV.arr (5 : Nat) (1 : Nat) (fun (y : Nat) => (AV.v (Value.int IntKind.u64 (((g (x + ((5 : Nat) * y))) : Nat) : Int))))))))), ((4 : Nat), (Blk.c (AV.arr (5 : Nat) (5 : Nat) (fun (x : Nat) => (AV.arr (5 : Nat) (1 : Nat) (fun (y : Nat) => (AV.v (Value.int IntKind.u64 (((0 : Nat) : Nat) : Int))))))))), ((13 : Nat), (Blk.c (AV.arr (5 : Nat) (5 : Nat) (fun (x : Nat) => (AV.arr (5 : Nat) (1 : Nat) (fun (y : Nat) => (AV.v (Value.int IntKind.u64 (((bR g ((5 : Nat) * i) (x + ((5 : Nat) * y))) : Nat) : Int)))))))))] [(2 : Nat), (4 : Nat), (13 : Nat)]) (fun (e : Ex) (S' : St) => Holds C P (173 : Nat) D K (RoundQ C 173 D K (I_q4 g k) (fun i => i ≤ 5) (fun i => 5 - i) ((fun i => 5 - i) (i)) (rest_rround_4 D K Φ)) (after C w_rround bd_rround_4 [1, 0, 0, 1, 0] [] lf e S')))) ∧
 ((decide (((i : Nat) : Int) < (5 : Int))) = false → 
 (LoopOK C P (173 : Nat) D K (bodyAt b_rround [1, 1, 1, 1, 1, 1, 1, 1, 1, 0, 1, 0]) (St.mk [((1 : Nat), (AV.v (Value.int IntKind.u64 ((k : Nat) : Int)))), ((2 : Nat), (AV.ptr (2 : Nat) [])), ((4 : Nat), (AV.ptr (4 : Nat) [])), ((13 : Nat), (AV.ptr (13 : Nat) [])), ((14 : Nat), (AV.v (Value.int IntKind.i64 ((i : Nat) : Int)))), ((16 : Nat), (AV.v (Value.int IntKind.i64 (0 : Int)))), ((110 : Nat), (AV.v (Value.bool false)))] [((2 : Nat), (Blk.c (AV.arr (5 : Nat) (5 : Nat) (fun (x : Nat) => (AV.arr (5 : Nat) (1 : Nat) (fun (y : Nat) => (AV.v (Value.int IntKind.u64 (((g (x + ((5 : Nat) * y))) : Nat) : Int))))))))), ((4 : Nat), (Blk.c (AV.arr (5 : Nat) (5 : Nat) (fun (x : Nat) => (AV.arr (5 : Nat) (1 : Nat) (fun (y : Nat) => (AV.v (Value.int IntKind.u64 (((0 : Nat) : Nat) : Int))))))))), ((13 : Nat), (Blk.c (AV.arr (5 : Nat) (5 : Nat) (fun (x : Nat) => (AV.arr (5 : Nat) (1 : Nat) (fun (y : Nat) => (AV.v (Value.int IntKind.u64 (((bR g ((5 : Nat) * i) (x + ((5 : Nat) * y))) : Nat) : Int)))))))))] [(2 : Nat), (4 : Nat), (13 : Nat)]) (fun (e : Ex) (S' : St) => Holds C P (173 : Nat) D K Φ (after C w_rround b_rround [1, 1, 1, 1, 1, 1, 1, 1, 1, 0, 1, 0] [] lf e S'))))) := by kernel_rfl
noncomputable abbrev bd_rround_5 : Code := bodyAt (bd_rround_4) [1, 0, 0, 1, 0]
theorem ok_rround_5 : codeOK bd_rround_5 = true := by kernel_rfl
noncomputable abbrev rest_rround_5 (D : Dom) (K : Nat) (Φ : Ex → St → Prop) : Ex → St → Prop := fun e S' => Holds C P 173 D K Φ (after C w_rround (bd_rround_4) [1, 0, 0, 1, 0] [] lf e S')
theorem rround_L5 (g : Nat → Nat) (k i y : Nat) {D : Dom} (K : Nat) (Φ : Ex → St → Prop) :
 (Holds C P 173 D K (RoundQ C 173 D K (I_q5 g k i) (fun y => y ≤ 5) (fun y => 5 - y) ((fun y => 5 - y) (y)) (rest_rround_5 D K Φ)) (vc C w_rround bd_rround_5 [] ((I_q5 g k i) (y)) lf)) =
 (((decide (((y : Nat) : Int) < (5 : Int))) = true → 
 ((I64 (((2 * i) : Nat) : Int)) ∧
 ((I64 (((3 * y) : Nat) : Int)) ∧
 ((I64 ((((2 * i) + (3 * y)) : Nat) : Int)) ∧
 (((5 : Int) ≠ (0 : Int)) ∧
 ((((0 : Int) ≤ ((i : Nat) : Int)) ∧ (((i : Nat) : Int) < (5 : Int))) ∧
 ((((0 : Int) ≤ ((y : Nat) : Int)) ∧ (((y : Nat) : Int) < (5 : Int))) ∧
 ((((0 : Int) ≤ ((y : Nat) : Int)) ∧ (((y : Nat) : Int) < (5 : Int))) ∧
 ((((0 : Int) ≤ (((((2 * i) + (3 * y)) % 5) : Nat) : Int)) ∧ ((((((2 * i) + (3 * y)) % 5) : Nat) : Int) < (5 : Int))) ∧
 ((I64 (((y + 1) : Nat) : Int)) ∧
 ((RoundQ C 173 D K (I_q5 g k i) (fun y => y ≤ 5) (fun y => 5 - y) ((fun y => 5 - y) (y)) (rest_rround_5 D K Φ)) Ex.normal (St.mk [((1 : Nat), (AV.v (Value.int IntKind.u64 ((k : Nat) : Int)))), ((2 : Nat), (AV.ptr (2 : Nat) [])), ((4 : Nat), (AV.ptr (4 : Nat) [])), ((13 : Nat), (AV.ptr (13 : Nat) [])), ((14 : Nat), (AV.v (Value.int IntKind.i64 ((i : Nat) : Int)))), ((15 : Nat), (AV.v (Value.int IntKind.i64 (((y + 1) : Nat) : Int)))), ((114 : Nat), (AV.v (Value.bool true)))] [((2 : Nat), (Blk.c (AV.arr (5 : Nat) (5 : Nat) (fun (x : Nat) => (AV.arr (5 : Nat) (1 : Nat) (fun (y1 : Nat) => (AV.v (Value.int IntKind.u64 (((g (x + ((5 : Nat) * y1))) : Nat) : Int))))))))), ((4 : Nat), (Blk.c (AV.arr (5 : Nat) (5 : Nat) (fun (x : Nat) => (AV.arr (5 : Nat) (1 : Nat) (fun (y1 : Nat) => (AV.v (Value.int IntKind.u64 (((0 : Nat) : Nat) : Int))))))))), ((13 : Nat), (Blk.c (AV.arr (5 : Nat) (5 : Nat) (fun (j : Nat) => (if (j = y) then (AV.arr (5 : Nat) (1 : Nat) (fun (j1 : Nat) => (if (j1 = (((2 * i) + (3 * y)) % 5)) then (AV.v (Value.int IntKind.u64 (((g (i + ((5 : Nat) * y))) : Nat) : Int))) else (AV.v (Value.int IntKind.u64 (((bR g (((5 : Nat) * i) + y) (y + ((5 : Nat) * j1))) : Nat) : Int)))))) else (AV.arr (5 : Nat) (1 : Nat) (fun (y1 : Nat) => (AV.v (Value.int IntKind.u64 (((bR g (((5 : Nat) * i) + y) (j + ((5 : Nat) * y1))) : Nat) : Int))))))))))] [(2 : Nat), (4 : Nat), (13 : Nat)])))))))))))) ∧
 ((decide (((y : Nat) : Int) < (5 : Int))) = false → 
 ((I64 (((i + 1) : Nat) : Int)) ∧
 (Φ Ex.normal (St.mk [((1 : Nat), (AV.v (Value.int IntKind.u64 ((k : Nat) : Int)))), ((2 : Nat), (AV.ptr (2 : Nat) [])), ((4 : Nat), (AV.ptr (4 : Nat) [])), ((13 : Nat), (AV.ptr (13 : Nat) [])), ((14 : Nat), (AV.v (Value.int IntKind.i64 (((i + 1) : Nat) : Int)))), ((15 : Nat), (AV.v (Value.int IntKind.i64 ((y : Nat) : Int)))), ((114 : Nat), (AV.v (Value.bool false)))] [((2 : Nat), (Blk.c (AV.arr (5 : Nat) (5 : Nat) (fun (x : Nat) => (AV.arr (5 : Nat) (1 : Nat) (fun (y1 : Nat) => (AV.v (Value.int IntKind.u64 (((g (x + ((5 : Nat) * y1))) : Nat) : Int))))))))), ((4 : Nat), (Blk.c (AV.arr (5 : Nat) (5 : Nat) (fun (x : Nat) => (AV.arr (5 : Nat) (1 : Nat) (fun (y1 : Nat) => (AV.v (Value.int IntKind.u64 (((0 : Nat) : Nat) : Int))))))))), ((13 : Nat), (Blk.c (AV.arr (5 : Nat) (5 : Nat) (fun (x : Nat) => (AV.arr (5 : Nat) (1 : Nat) (fun (y1 : Nat) => (AV.v (Value.int IntKind.u64 (((bR g (((5 : Nat) * i) + y) (x + ((5 : Nat) * y1))) : Nat) : Int)))))))))] [(2 : Nat), (4 : Nat), (13 : Nat)]))))) := by kernel_rfl
noncomputable abbrev bd_rround_6 : Code := bodyAt (b_rround) [1, 1, 1, 1, 1, 1, 1, 1, 1, 0, 1, 0]
theorem ok_rround_6 : codeOK bd_rround_6 = true := by kernel_rfl
noncomputable abbrev rest_rround_6 (D : Dom) (K : Nat) (Φ : Ex → St → Prop) : Ex → St → Prop := fun e S' => Holds C P 173 D K Φ (after C w_rround (b_rround) [1, 1, 1, 1, 1, 1, 1, 1, 1, 0, 1, 0] [] lf e S')
theorem rround_L6 (g b : Nat → Nat) (k i : Nat) {D : Dom} (K : Nat) (Φ : Ex → St → Prop) :
 (Holds C P 173 D K (RoundQ C 173 D K (I_q6 g b k) (fun i => i ≤ 5) (fun i => 5 - i) ((fun i => 5 - i) (i)) (rest_rround_6 D K Φ)) (vc C w_rround bd_rround_6 [] ((I_q6 g b k) (i)) lf)) =
 (((decide (((i : Nat) : Int) < (5 : Int))) = true → 
 (LoopOK C P (173 : Nat) D K (bodyAt bd_rround_6 [1, 0, 0, 1, 0]) (St.mk [((1 : Nat), (AV.v (Value.int IntKind.u64 ((k : Nat) : Int)))), ((2 : Nat), (AV.ptr (2 : Nat) [])), ((4 : Nat), (AV.ptr (4 : Nat) [])), ((13 : Nat), (AV.ptr (13 : Nat) [])), ((16 : Nat), (AV.v (Value.int IntKind.i64 ((i : Nat) : Int)))), ((17 : Nat), (AV.v (Value.int IntKind.i64 (0 : Int)))), ((132 : Nat), (AV.v (Value.bool true)))] [((2 : Nat), (Blk.c (AV.arr (5 : Nat) (5 : Nat) (fun (x : Nat) => (AV.arr (5 : Nat) (1 : Nat) (fun (y : Nat) => (AV.v (Value.int IntKind.u64 (((part (Sp.chi b) g i (0 : Nat) (x + ((5 : Nat) * y))) : Nat) : Int))))))))), ((4 : Nat), (Blk.c (AV.arr (5 : Nat) (5 : Nat) (fun (x : Nat) => (AV.arr (5 : Nat) (1 : Nat) (fun (y : Nat) => (AV.v (Value.int IntKind.u64 (((0 : Nat) : Nat) : Int))))))))), ((13 : Nat), (Blk.c (AV.arr (5 : Nat) (5 : Nat) (fun (x : Nat) => (AV.arr (5 : Nat) (1 : Nat) (fun (y : Nat) => (AV.v (Value.int IntKind.u64 (((b (x + ((5 : Nat) * y))) : Nat) : Int)))))))))] [(2 : Nat), (4 : Nat), (13 : Nat)]) (fun (e : Ex) (S' : St) => Holds C P (173 : Nat) D K (RoundQ C 173 D K (I_q6 g b k) (fun i => i ≤ 5) (fun i => 5 - i) ((fun i => 5 - i) (i)) (rest_rround_6 D K Φ)) (after C w_rround bd_rround_6 [1, 0, 0, 1, 0] [] lf e S')))) ∧
 ((decide (((i : Nat) : Int) < (5 : Int))) = false → 
 ((((0 : Int) ≤ (0 : Int)) ∧ ((0 : Int) < (5 : Int))) ∧
 ((((0 : Int) ≤ (0 : Int)) ∧ ((0 : Int) < (5 : Int))) ∧
 ((((0 : Int) ≤ (0 : Int)) ∧ ((0 : Int) < (5 : Int))) ∧
 ((((0 : Int) ≤ (0 : Int)) ∧ ((0 : Int) < (5 : Int))) ∧
 ((((5 : Nat) = (5 : Nat)) ∧ (((5 : Nat) = (5 : Nat)) ∧ (∀ (i1 : Nat), ((i1 < (5 : Nat)) → (shp (AV.arr (5 : Nat) (1 : Nat) (fun (y : Nat) => (AV.v (Value.int IntKind.u64 (((0 : Nat) : Nat) : Int))))) (if (i1 = (0 : Nat)) then (AV.arr (5 : Nat) (1 : Nat) (fun (j : Nat) => (if (j = (0 : Nat)) then (AV.v (Value.int IntKind.u64 (bXor IntKind.u64 (((part (Sp.chi b) g i (0 : Nat) (0 : Nat)) : Nat) : Int) ((k : Nat) : Int)))) else (AV.v (Value.int IntKind.u64 (((part (Sp.chi b) g i (0 : Nat) ((0 : Nat) + ((5 : Nat) * j))) : Nat) : Int)))))) else (AV.arr (5 : Nat) (1 : Nat) (fun (y : Nat) => (AV.v (Value.int IntKind.u64 (((part (Sp.chi b) g i (0 : Nat) (i1 + ((5 : Nat) * y))) : Nat) : Int))))))))))) ∧
 (Φ Ex.ret (St.mk [((1 : Nat), (AV.v (Value.int IntKind.u64 ((k : Nat) : Int)))), ((2 : Nat), (AV.ptr (2 : Nat) [])), ((4 : Nat), (AV.ptr (4 : Nat) [])), ((13 : Nat), (AV.ptr (13 : Nat) [])), ((16 : Nat), (AV.v (Value.int IntKind.i64 ((i : Nat) : Int)))), ((132 : Nat), (AV.v (Value.bool false)))] [((2 : Nat), (Blk.c (AV.arr (5 : Nat) (5 : Nat) (fun (j : Nat) => (if (j = (0 : Nat)) then (AV.arr (5 : Nat) (1 : Nat) (fun (j1 : Nat) => (if (j1 = (0 : Nat)) then (AV.v (Value.int IntKind.u64 (bXor IntKind.u64 (((part (Sp.chi b) g i (0 : Nat) (0 : Nat)) : Nat) : Int) ((k : Nat) : Int)))) else (AV.v (Value.int IntKind.u64 (((part (Sp.chi b) g i (0 : Nat) ((0 : Nat) + ((5 : Nat) * j1))) : Nat) : Int)))))) else (AV.arr (5 : Nat) (1 : Nat) (fun (y : Nat) => (AV.v (Value.int IntKind.u64 (((part (Sp.chi b) g i (0 : Nat) (j + ((5 : Nat) * y))) : Nat) : Int)))))))))), ((4 : Nat), (Blk.c (AV.arr (5 : Nat) (5 : Nat) (fun (j : Nat) => (if (j = (0 : Nat)) then (AV.arr (5 : Nat) (1 : Nat) (fun (j1 : Nat) => (if (j1 = (0 : Nat)) then (AV.v (Value.int IntKind.u64 (bXor IntKind.u64 (((part (Sp.chi b) g i (0 : Nat) (0 : Nat)) : Nat) : Int) ((k : Nat) : Int)))) else (AV.v (Value.int IntKind.u64 (((part (Sp.chi b) g i (0 : Nat) ((0 : Nat) + ((5 : Nat) * j1))) : Nat) : Int)))))) else (AV.arr (5 : Nat) (1 : Nat) (fun (y : Nat) => (AV.v (Value.int IntKind.u64 (((part (Sp.chi b) g i (0 : Nat) (j + ((5 : Nat) * y))) : Nat) : Int)))))))))), ((13 : Nat), (Blk.c (AV.arr (5 : Nat) (5 : Nat) (fun (x : Nat) => (AV.arr (5 : Nat) (1 : Nat) (fun (y : Nat) => (AV.v (Value.int IntKind.u64 (((b (x + ((5 : Nat) * y))) : Nat) : Int)))))))))] [(2 : Nat), (4 : Nat), (13 : Nat)]))))))))) := by kernel_rfl
noncomputable abbrev bd_rround_7 : Code := bodyAt (bd_rround_6) [1, 0, 0, 1, 0]
theorem ok_rround_7 : codeOK bd_rround_7 = true := by kernel_rfl
noncomputable abbrev rest_rround_7 (D : Dom) (K : Nat) (Φ : Ex → St → Prop) : Ex → St → Prop := fun e S' => Holds C P 173 D K Φ (after C w_rround (bd_rround_6) [1, 0, 0, 1, 0] [] lf e S')
theorem rround_L7 (g b : Nat → Nat) (k i y : Nat) {D : Dom} (K : Nat) (Φ : Ex → St → Prop) :
 (Holds C P 173 D K (RoundQ C 173 D K (I_q7 g b k i) (fun y => y ≤ 5) (fun y => 5 - y) ((fun y => 5 - y) (y)) (rest_rround_7 D K Φ)) (vc C w_rround bd_rround_7 [] ((I_q7 g b k i) (y)) lf)) =
 (((decide (((y : Nat) : Int) < (5 : Int))) = true → 
 ((((0 : Int) ≤ ((i : Nat) : Int)) ∧ (((i : Nat) : Int) < (5 : Int))) ∧
 ((((0 : Int) ≤ ((y : Nat) : Int)) ∧ (((y : Nat) : Int) < (5 : Int))) ∧
 ((I64 (((i + 1) : Nat) : Int)) ∧
 (((5 : Int) ≠ (0 : Int)) ∧
 ((((0 : Int) ≤ ((((i + 1) % 5) : Nat) : Int)) ∧ (((((i + 1) % 5) : Nat) : Int) < (5 : Int))) ∧
 ((((0 : Int) ≤ ((y : Nat) : Int)) ∧ (((y : Nat) : Int) < (5 : Int))) ∧
 ((I64 (((i + 2) : Nat) : Int)) ∧
 (((5 : Int) ≠ (0 : Int)) ∧
 ((((0 : Int) ≤ ((((i + 2) % 5) : Nat) : Int)) ∧ (((((i + 2) % 5) : Nat) : Int) < (5 : Int))) ∧
 ((((0 : Int) ≤ ((y : Nat) : Int)) ∧ (((y : Nat) : Int) < (5 : Int))) ∧
 ((((0 : Int) ≤ ((i : Nat) : Int)) ∧ (((i : Nat) : Int) < (5 : Int))) ∧
 ((((0 : Int) ≤ ((y : Nat) : Int)) ∧ (((y : Nat) : Int) < (5 : Int))) ∧
 ((I64 (((y + 1) : Nat) : Int)) ∧
 ((RoundQ C 173 D K (I_q7 g b k i) (fun y => y ≤ 5) (fun y => 5 - y) ((fun y => 5 - y) (y)) (rest_rround_7 D K Φ)) Ex.normal (St.mk [((1 : Nat), (AV.v (Value.int IntKind.u64 ((k : Nat) : Int)))), ((2 : Nat), (AV.ptr (2 : Nat) [])), ((4 : Nat), (AV.ptr (4 : Nat) [])), ((13 : Nat), (AV.ptr (13 : Nat) [])), ((16 : Nat), (AV.v (Value.int IntKind.i64 ((i : Nat) : Int)))), ((17 : Nat), (AV.v (Value.int IntKind.i64 (((y + 1) : Nat) : Int)))), ((136 : Nat), (AV.v (Value.bool true)))] [((2 : Nat), (Blk.c (AV.arr (5 : Nat) (5 : Nat) (fun (j : Nat) => (if (j = i) then (AV.arr (5 : Nat) (1 : Nat) (fun (j1 : Nat) => (if (j1 = y) then (AV.v (Value.int IntKind.u64 (bXor IntKind.u64 (((b (i + ((5 : Nat) * y))) : Nat) : Int) (bAnd IntKind.u64 (bXor IntKind.u64 (18446744073709551615 : Int) (((b (((i + 1) % 5) + ((5 : Nat) * y))) : Nat) : Int)) (((b (((i + 2) % 5) + ((5 : Nat) * y))) : Nat) : Int))))) else (AV.v (Value.int IntKind.u64 (((part (Sp.chi b) g i y (i + ((5 : Nat) * j1))) : Nat) : Int)))))) else (AV.arr (5 : Nat) (1 : Nat) (fun (y1 : Nat) => (AV.v (Value.int IntKind.u64 (((part (Sp.chi b) g i y (j + ((5 : Nat) * y1))) : Nat) : Int)))))))))), ((4 : Nat), (Blk.c (AV.arr (5 : Nat) (5 : Nat) (fun (x : Nat) => (AV.arr (5 : Nat) (1 : Nat) (fun (y1 : Nat) => (AV.v (Value.int IntKind.u64 (((0 : Nat) : Nat) : Int))))))))), ((13 : Nat), (Blk.c (AV.arr (5 : Nat) (5 : Nat) (fun (x : Nat) => (AV.arr (5 : Nat) (1 : Nat) (fun (y1 : Nat) => (AV.v (Value.int IntKind.u64 (((b (x + ((5 : Nat) * y1))) : Nat) : Int)))))))))] [(2 : Nat), (4 : Nat), (13 : Nat)])))))))))))))))) ∧
 ((decide (((y : Nat) : Int) < (5 : Int))) = false → 
 ((I64 (((i + 1) : Nat) : Int)) ∧
 (Φ Ex.normal (St.mk [((1 : Nat), (AV.v (Value.int IntKind.u64 ((k : Nat) : Int)))), ((2 : Nat), (AV.ptr (2 : Nat) [])), ((4 : Nat), (AV.ptr (4 : Nat) [])), ((13 : Nat), (AV.ptr (13 : Nat) [])), ((16 : Nat), (AV.v (Value.int IntKind.i64 (((i + 1) : Nat) : Int)))), ((17 : Nat), (AV.v (Value.int IntKind.i64 ((y : Nat) : Int)))), ((136 : Nat), (AV.v (Value.bool false)))] [((2 : Nat), (Blk.c (AV.arr (5 : Nat) (5 : Nat) (fun (x : Nat) => (AV.arr (5 : Nat) (1 : Nat) (fun (y1 : Nat) => (AV.v (Value.int IntKind.u64 (((part (Sp.chi b) g i y (x + ((5 : Nat) * y1))) : Nat) : Int))))))))), ((4 : Nat), (Blk.c (AV.arr (5 : Nat) (5 : Nat) (fun (x : Nat) => (AV.arr (5 : Nat) (1 : Nat) (fun (y1 : Nat) => (AV.v (Value.int IntKind.u64 (((0 : Nat) : Nat) : Int))))))))), ((13 : Nat), (Blk.c (AV.arr (5 : Nat) (5 : Nat) (fun (x : Nat) => (AV.arr (5 : Nat) (1 : Nat) (fun (y1 : Nat) => (AV.v (Value.int IntKind.u64 (((b (x + ((5 : Nat) * y1))) : Nat) : Int)))))))))] [(2 : Nat), (4 : Nat), (13 : Nat)]))))) := by kernel_rfl
theorem left_fun (n w : Nat) (hw : w < 2 ^ 64) (hn : n ≤ 64) : Fun C P F_left [i64 n, u64 w] [] (u64 (rotl w n)) [] := by
 refine in_left (W := w_left) rfl 0 (by simp) rfl (fun id h => absurd rfl h) fun D => ?_
 refine of_eq (left_A n w 0 _) ?_
 rw [show (64 : Int) - ((n : Nat) : Int) = ((64 - n : Nat) : Int) by omega, shl64, shr64 _ _ hw, or64 (Nat.mod_lt _ (by decide)) (by rw [Nat.shiftRight_eq_div_pow]; exact Nat.lt_of_le_of_lt (Nat.div_le_self _ _) hw)]
 exact ⟨(by first | omega | decide | (unfold I64; omega)), (by first | omega | decide | (unfold I64; omega)), (by first | omega | decide | (unfold I64; omega)), post_tmp rfl (sm_same rfl)⟩
theorem rwords_fun : Fun C P F_rwords [] [] wordsR [] := by
 refine in_rwords (W := w_rwords) rfl 0 (by simp) rfl (fun id h => absurd rfl h) fun D => ?_
 refine of_eq (rwords_A 0 _) ⟨⟨rfl, rfl, fun i hi => ?_⟩, post_cell rfl rfl (sm_arr fun i hi => ?_) rfl⟩
 ·have h : i = 0 ∨ i = 1 ∨ i = 2 ∨ i = 3 ∨ i = 4 ∨ i = 5 ∨ i = 6 ∨ i = 7 ∨ i = 8 ∨ i = 9 ∨ i = 10 ∨ i = 11 ∨ i = 12 ∨ i = 13 ∨ i = 14 ∨ i = 15 ∨ i = 16 ∨ i = 17 ∨ i = 18 ∨ i = 19 ∨ i = 20 ∨ i = 21 ∨ i = 22 ∨ i = 23 := by omega
  rcases h with rfl | rfl | rfl | rfl | rfl | rfl | rfl | rfl | rfl | rfl | rfl | rfl | rfl | rfl | rfl | rfl | rfl | rfl | rfl | rfl | rfl | rfl | rfl | rfl <;> exact ⟨rfl, rfl⟩
 ·have h : i = 0 ∨ i = 1 ∨ i = 2 ∨ i = 3 ∨ i = 4 ∨ i = 5 ∨ i = 6 ∨ i = 7 ∨ i = 8 ∨ i = 9 ∨ i = 10 ∨ i = 11 ∨ i = 12 ∨ i = 13 ∨ i = 14 ∨ i = 15 ∨ i = 16 ∨ i = 17 ∨ i = 18 ∨ i = 19 ∨ i = 20 ∨ i = 21 ∨ i = 22 ∨ i = 23 := by omega
  rcases h with rfl | rfl | rfl | rfl | rfl | rfl | rfl | rfl | rfl | rfl | rfl | rfl | rfl | rfl | rfl | rfl | rfl | rfl | rfl | rfl | rfl | rfl | rfl | rfl <;> rfl
theorem el_arr {F G : Nat → AV} (h : ∀ y, y < 5 → F y = G y) : AV.arr 5 1 F = .arr 5 1 G ∨ sim (fun _ => none) (.arr 5 1 F) (.arr 5 1 G) := .inr ⟨rfl, rfl, fun y hy => .inl (h y hy)⟩
theorem sm_ref {m : Nat → Option Nat} {g h : Nat → Nat} (e : ∀ x y, x < 5 → y < 5 → g (x + 5 * y) = h (x + 5 * y)) : simR m (refArr g) (refArr h) :=
 .inr ⟨rfl, rfl, fun x hx => el_arr fun y hy => by rw [e x y hx hy]⟩
theorem sm_upd2 {m : Nat → Option Nat} {g h : Nat → Nat} {x0 y0 : Nat} {v : AV} (hv : v = u64 (h (x0 + 5 * y0))) (e : ∀ x y, x < 5 → y < 5 → ¬ (x = x0 ∧ y = y0) → g (x + 5 * y) = h (x + 5 * y)) :
  simR m (.arr 5 5 (fun j => if j = x0 then .arr 5 1 (fun j1 => if j1 = y0 then v else u64 (g (x0 + 5 * j1))) else .arr 5 1 (fun y => u64 (g (j + 5 * y))))) (refArr h) := by
 refine .inr ⟨rfl, rfl, fun x hx => ?_⟩
 dsimp only
 by_cases a : x = x0
 ·rw [if_pos a]
  refine el_arr fun y hy => ?_
  by_cases b : y = y0
  ·rw [if_pos b, hv, a, b]
  ·rw [if_neg b, ← a, e x y hx hy fun h => b h.2]
 ·rw [if_neg a]
  exact el_arr fun y hy => by rw [e x y hx hy fun h => a h.1]
theorem pmod {x y : Nat} (h : x < 5) : (x + 5 * y) % 5 = x := by omega
theorem pdiv {x y : Nat} (h : x < 5) : (x + 5 * y) / 5 = y := by omega
theorem part_at {u v : Nat → Nat} {i y x z : Nat} (hx : x < 5) : part u v i y (x + 5 * z) = if x < i ∨ (x = i ∧ z < y) then u (x + 5 * z) else v (x + 5 * z) := by
 unfold part
 rw [pmod hx, pdiv hx]
theorem part_here {u v : Nat → Nat} {i y : Nat} (hi : i < 5) : part u v i y (i + 5 * y) = v (i + 5 * y) := by
 rw [part_at hi, if_neg (by omega)]
theorem part_next {u v : Nat → Nat} {i y x z : Nat} (hx : x < 5) (h : ¬ (x = i ∧ z = y)) : part u v i y (x + 5 * z) = part u v i (y + 1) (x + 5 * z) := by
 rw [part_at hx, part_at hx]
 by_cases a : x < i ∨ (x = i ∧ z < y)
 ·rw [if_pos a, if_pos (by omega)]
 ·rw [if_neg a, if_neg (by omega)]
theorem part_row {u v : Nat → Nat} {i x z : Nat} (hx : x < 5) (hz : z < 5) : part u v i 5 (x + 5 * z) = part u v (i + 1) 0 (x + 5 * z) := by
 rw [part_at hx, part_at hx]
 by_cases a : x < i ∨ (x = i ∧ z < 5)
 ·rw [if_pos a, if_pos (by omega)]
 ·rw [if_neg a, if_neg (by omega)]
theorem part_new {u v : Nat → Nat} {i y : Nat} (hi : i < 5) : part u v i (y + 1) (i + 5 * y) = u (i + 5 * y) := by
 rw [part_at hi, if_pos (by omega)]
theorem part_all {u v : Nat → Nat} {x z : Nat} (hx : x < 5) : part u v 5 0 (x + 5 * z) = u (x + 5 * z) := by
 rw [part_at hx, if_pos (by omega)]
theorem part_none {u v : Nat → Nat} {x z : Nat} (hx : x < 5) : part u v 0 0 (x + 5 * z) = v (x + 5 * z) := by
 rw [part_at hx, if_neg (by omega)]
theorem colN_eq (f : Nat → Nat) {x : Nat} (hx : x < 5) : colN f x = cN f 25 x := by
 match x, hx with
 | 0, _ => simp [cN, colN]
 | 1, _ => simp [cN, colN]
 | 2, _ => simp [cN, colN]
 | 3, _ => simp [cN, colN]
 | 4, _ => simp [cN, colN]
theorem theta_at (f : Nat → Nat) {i y : Nat} (hi : i < 5) : theta f (i + 5 * y) = f (i + 5 * y) ^^^ dlN f i := by
 unfold theta dlN
 rw [pmod hi]
theorem chi_at (b : Nat → Nat) {i y : Nat} (hi : i < 5) : chi b (i + 5 * y) = b (i + 5 * y) ^^^ (((2 ^ 64 - 1) ^^^ b ((i + 1) % 5 + 5 * y)) &&& b ((i + 2) % 5 + 5 * y)) := by
 unfold chi
 rw [pdiv hi, show y * 5 + (i + 5 * y + 1) % 5 = (i + 1) % 5 + 5 * y by omega, show y * 5 + (i + 5 * y + 2) % 5 = (i + 2) % 5 + 5 * y by omega]
theorem rotl_zero {x : Nat} (h : x < 2 ^ 64) : rotl x 0 = x := by
 unfold rotl
 rw [Nat.shiftLeft_zero, Nat.mod_eq_of_lt h, Nat.sub_zero, Nat.shiftRight_eq_div_pow, Nat.div_eq_of_lt h, Nat.or_zero]
theorem rho_end {th : Nat → Nat} (h0 : th 0 < 2 ^ 64) {p : Nat} (hp : p < 25) : rhoN th 24 p = rotl (th p) (turnsN p) := by
 have h : p = 0 ∨ p = 1 ∨ p = 2 ∨ p = 3 ∨ p = 4 ∨ p = 5 ∨ p = 6 ∨ p = 7 ∨ p = 8 ∨ p = 9 ∨ p = 10 ∨ p = 11 ∨ p = 12 ∨ p = 13 ∨ p = 14 ∨ p = 15 ∨ p = 16 ∨ p = 17 ∨ p = 18 ∨ p = 19 ∨ p = 20 ∨ p = 21 ∨ p = 22 ∨ p = 23 ∨ p = 24 := by omega
 rcases h with rfl | rfl | rfl | rfl | rfl | rfl | rfl | rfl | rfl | rfl | rfl | rfl | rfl | rfl | rfl | rfl | rfl | rfl | rfl | rfl | rfl | rfl | rfl | rfl | rfl
 ·exact (rotl_zero h0).symm
 all_goals rfl
theorem bR_end {g f : Nat → Nat} (hg : ∀ p, p < 25 → g p = rotl (theta f p) (turnsN p)) {p : Nat} (hp : p < 25) : bR g 25 p = bN f 25 p := by
 have h : p = 0 ∨ p = 1 ∨ p = 2 ∨ p = 3 ∨ p = 4 ∨ p = 5 ∨ p = 6 ∨ p = 7 ∨ p = 8 ∨ p = 9 ∨ p = 10 ∨ p = 11 ∨ p = 12 ∨ p = 13 ∨ p = 14 ∨ p = 15 ∨ p = 16 ∨ p = 17 ∨ p = 18 ∨ p = 19 ∨ p = 20 ∨ p = 21 ∨ p = 22 ∨ p = 23 ∨ p = 24 := by omega
 rcases h with rfl | rfl | rfl | rfl | rfl | rfl | rfl | rfl | rfl | rfl | rfl | rfl | rfl | rfl | rfl | rfl | rfl | rfl | rfl | rfl | rfl | rfl | rfl | rfl | rfl
 ·exact hg 0 (by decide)
 ·exact hg 6 (by decide)
 ·exact hg 12 (by decide)
 ·exact hg 18 (by decide)
 ·exact hg 24 (by decide)
 ·exact hg 3 (by decide)
 ·exact hg 9 (by decide)
 ·exact hg 10 (by decide)
 ·exact hg 16 (by decide)
 ·exact hg 22 (by decide)
 ·exact hg 1 (by decide)
 ·exact hg 7 (by decide)
 ·exact hg 13 (by decide)
 ·exact hg 19 (by decide)
 ·exact hg 20 (by decide)
 ·exact hg 4 (by decide)
 ·exact hg 5 (by decide)
 ·exact hg 11 (by decide)
 ·exact hg 17 (by decide)
 ·exact hg 23 (by decide)
 ·exact hg 2 (by decide)
 ·exact hg 8 (by decide)
 ·exact hg 14 (by decide)
 ·exact hg 15 (by decide)
 ·exact hg 21 (by decide)
theorem rhoN_lt {th : Nat → Nat} (h : ∀ i, i < 25 → th i < 2 ^ 64) : ∀ t i, i < 25 → rhoN th t i < 2 ^ 64
 | 0, i, hi => h i hi
 | t + 1, i, hi => by
  unfold rhoN
  by_cases e : i = (pos t).1 + 5 * (pos t).2
  ·rw [if_pos e]; exact rotl_lt (rhoN_lt h t i hi)
  ·rw [if_neg e]; exact rhoN_lt h t i hi
theorem flat_ref (f : Nat → Nat) (p : Nat) : f (p % 5 + 5 * (p / 5)) = f p := by rw [Nat.mod_add_div]
theorem rround_fun (f : Nat → Nat) (k : Nat) (hf : ∀ i, i < 25 → f i < 2 ^ 64) (hk : k < 2 ^ 64) : Fun C P F_rround [refArr f, u64 k] [] (refArr (roundN f k)) [] := by
 have hc : ∀ j, cN f 25 j < 2 ^ 64 := cN_lt hf 25 (Nat.le_refl _)
 have hd : ∀ i, dlN f i < 2 ^ 64 := fun i => Nat.xor_lt_two_pow (hc _) (rotl_lt (hc _))
 have hth : ∀ i, i < 25 → theta f i < 2 ^ 64 := fun i hi => theta_lt hf hi
 have hb : ∀ j, bN f 25 j < 2 ^ 64 := bN_lt hf 25 (Nat.le_refl _)
 refine in_rround (W := w_rround) rfl 0 (by simp) rfl (fun id h => absurd rfl h) fun D => ?_
 refine of_eq (rround_A f k 0 _) ⟨⟨rfl, rfl, fun _ _ => ⟨rfl, rfl⟩⟩, ?_⟩
 refine loop_inv (W := w_rround) ctx mixed ok_rround_0 (I_q0 f k) (fun i => i ≤ 5) (fun i => 5 - i) 0 (by decide) ?_ fun i hi => ?_
 ·exact ent_of [(2, 2), (4, 4), (5, 5)] rfl (tm_cons rfl (sm_same rfl) (tm_cons rfl (sm_ptr rfl) (tm_cons rfl (sm_ptr rfl) (tm_cons rfl (sm_ptr rfl) (tm_cons rfl (sm_same rfl) tm_nil))))) (hp_cons rfl rfl (sm_same rfl) (hp_cons rfl rfl (sm_same rfl) (hp_cons rfl rfl (sm_arr fun j _ => rfl) hp_nil)))
 refine of_eq (rround_L0 f k i 0 _) ⟨fun h => ?_, fun h => ?_⟩
 ·simp only [decide_eq_true_eq] at h
  have b1 : ∀ q, q ≤ 20 → f (i + q) < 2 ^ 64 := fun q hq => hf _ (by omega)
  have b0 : f i < 2 ^ 64 := hf _ (by omega)
  rw [xor64 b0 (b1 5 (by decide)), xor64 (Nat.xor_lt_two_pow b0 (b1 5 (by decide))) (b1 10 (by decide)), xor64 (Nat.xor_lt_two_pow (Nat.xor_lt_two_pow b0 (b1 5 (by decide))) (b1 10 (by decide))) (b1 15 (by decide)),
   xor64 (Nat.xor_lt_two_pow (Nat.xor_lt_two_pow (Nat.xor_lt_two_pow b0 (b1 5 (by decide))) (b1 10 (by decide))) (b1 15 (by decide))) (b1 20 (by decide))]
  refine ⟨(by first | omega | decide | (unfold I64; omega)), (by first | omega | decide | (unfold I64; omega)), (by first | omega | decide | (unfold I64; omega)), (by first | omega | decide | (unfold I64; omega)), (by first | omega | decide | (unfold I64; omega)), (by first | omega | decide | (unfold I64; omega)), (by first | omega | decide | (unfold I64; omega)), (by first | omega | decide | (unfold I64; omega)), (by first | omega | decide | (unfold I64; omega)), (by first | omega | decide | (unfold I64; omega)), (by first | omega | decide | (unfold I64; omega)), (by first | omega | decide | (unfold I64; omega)), round_end (i + 1) (by omega) (ent_of [(2, 2), (4, 4), (5, 5)] rfl (tm_cons rfl (sm_same rfl) (tm_cons rfl (sm_ptr rfl) (tm_cons rfl (sm_ptr rfl) (tm_cons rfl (sm_ptr rfl) (tm_cons rfl (sm_same rfl) tm_nil))))) (hp_cons rfl rfl (sm_same rfl) (hp_cons rfl rfl (sm_same rfl) (hp_cons rfl rfl (sm_arr fun j _ => ?_) hp_nil)))) (by dsimp only; omega)⟩
  show _ = u64 (if j < i + 1 then colN f j else 0)
  by_cases e : j = i
  ·rw [if_pos e, if_pos (by omega), e]; rfl
  ·rw [if_neg e]
   by_cases e2 : j < i
   ·rw [if_pos e2, if_pos (by omega)]
   ·rw [if_neg e2, if_neg (by omega)]
 simp only [decide_eq_false_iff_not] at h
 obtain rfl : i = 5 := by omega
 clear h
 refine loop_inv (W := w_rround) ctx mixed ok_rround_1 (I_q1 f k) (fun i => i ≤ 5) (fun i => 5 - i) 0 (by decide) ?_ fun i hi => ?_
 ·refine ent_of [(2, 2), (4, 4), (5, 5)] rfl (tm_cons rfl (sm_same rfl) (tm_cons rfl (sm_ptr rfl) (tm_cons rfl (sm_ptr rfl) (tm_cons rfl (sm_ptr rfl) (tm_cons rfl (sm_same rfl) tm_nil))))) (hp_cons rfl rfl (sm_ref fun x y hx _ => (part_none hx).symm) (hp_cons rfl rfl (sm_same rfl) (hp_cons rfl rfl (sm_arr fun j hj => ?_) hp_nil)))
  rw [if_pos hj, colN_eq f hj]
 refine of_eq (rround_L1 f k i 0 _) ⟨fun h => ?_, fun h => ?_⟩
 ·simp only [decide_eq_true_eq] at h
  rw [xor64 (hc _) (rotl_lt (hc _))]
  refine ⟨(by first | omega | decide | (unfold I64; omega)), (by first | omega | decide | (unfold I64; omega)), (by first | omega | decide | (unfold I64; omega)), (by first | omega | decide | (unfold I64; omega)), (by first | omega | decide | (unfold I64; omega)), (by first | omega | decide | (unfold I64; omega)), left_fun 1 _ (hc _) (by decide), trivial, ?_⟩
  refine loop_inv (W := w_rround) ctx mixed ok_rround_2 (I_q2 f k i) (fun y => y ≤ 5) (fun y => 5 - y) 0 (by decide) ?_ fun y hy => ?_
  ·exact ent_of [(2, 2), (4, 4), (5, 5)] rfl (tm_cons rfl (sm_same rfl) (tm_cons rfl (sm_ptr rfl) (tm_cons rfl (sm_ptr rfl) (tm_cons rfl (sm_ptr rfl) (tm_cons rfl (sm_same rfl) (tm_cons rfl (sm_same rfl) (tm_cons rfl (sm_same rfl) tm_nil))))))) (hp_cons rfl rfl (sm_same rfl) (hp_cons rfl rfl (sm_same rfl) (hp_cons rfl rfl (sm_same rfl) hp_nil)))
  refine of_eq (rround_L2 f k i y 0 _) ⟨fun h2 => ?_, fun h2 => ?_⟩
  ·simp only [decide_eq_true_eq] at h2
   rw [part_here (by omega), xor64 (hf _ (by omega)) (hd i)]
   refine ⟨(by first | omega | decide | (unfold I64; omega)), (by first | omega | decide | (unfold I64; omega)), (by first | omega | decide | (unfold I64; omega)), (by first | omega | decide | (unfold I64; omega)), (by first | omega | decide | (unfold I64; omega)), round_end (y + 1) (by omega) (ent_of [(2, 2), (4, 4), (5, 5)] rfl (tm_cons rfl (sm_same rfl) (tm_cons rfl (sm_ptr rfl) (tm_cons rfl (sm_ptr rfl) (tm_cons rfl (sm_ptr rfl) (tm_cons rfl (sm_same rfl) (tm_cons rfl (sm_same rfl) (tm_cons rfl (sm_same rfl) tm_nil))))))) (hp_cons rfl rfl (sm_upd2 (by rw [part_new (by omega), theta_at f (by omega)]) fun x z hx _ hne => part_next hx hne) (hp_cons rfl rfl (sm_same rfl) (hp_cons rfl rfl (sm_same rfl) hp_nil)))) (by dsimp only; omega)⟩
  ·simp only [decide_eq_false_iff_not] at h2
   obtain rfl : y = 5 := by omega
   exact ⟨(by first | omega | decide | (unfold I64; omega)), round_end (i + 1) (by omega) (ent_of [(2, 2), (4, 4), (5, 5)] rfl (tm_cons rfl (sm_same rfl) (tm_cons rfl (sm_ptr rfl) (tm_cons rfl (sm_ptr rfl) (tm_cons rfl (sm_ptr rfl) (tm_cons rfl (sm_same rfl) tm_nil))))) (hp_cons rfl rfl (sm_ref fun x z hx hz => part_row hx hz) (hp_cons rfl rfl (sm_same rfl) (hp_cons rfl rfl (sm_same rfl) hp_nil)))) (by dsimp only; omega)⟩
 simp only [decide_eq_false_iff_not] at h
 obtain rfl : i = 5 := by omega
 clear h
 refine loop_inv (W := w_rround) ctx mixed ok_rround_3 (I_q3 f k) (fun i => i ≤ 24) (fun i => 24 - i) 0 (by decide) ?_ fun i hi => ?_
 ·exact ent_of [(2, 2), (4, 4)] rfl (tm_cons rfl (sm_same rfl) (tm_cons rfl (sm_ptr rfl) (tm_cons rfl (sm_ptr rfl) (tm_cons rfl (sm_same rfl) (tm_cons rfl (sm_same rfl) (tm_cons rfl (sm_same rfl) tm_nil)))))) (hp_cons rfl rfl (sm_ref fun x z hx _ => part_all hx) (hp_cons rfl rfl (sm_same rfl) hp_nil))
 refine of_eq (rround_L3 f k i 0 _) ⟨fun h => ?_, fun h => ?_⟩
 ·simp only [decide_eq_true_eq] at h
  obtain ⟨p1, p2⟩ := pos_lt i
  have hm : (i + 1) * (i + 2) ≤ 24 * 25 := Nat.mul_le_mul (by omega) (by omega)
  refine ⟨(by first | omega | decide | (unfold I64; omega)), (by first | omega | decide | (unfold I64; omega)), (by unfold I64; omega), (by first | omega | decide | (unfold I64; omega)), (by unfold I64; omega), (by first | omega | decide | (unfold I64; omega)), (by first | omega | decide | (unfold I64; omega)), (by first | omega | decide | (unfold I64; omega)), left_fun _ _ (rhoN_lt hth i _ (by omega)) (by omega), trivial, (by first | omega | decide | (unfold I64; omega)), (by first | omega | decide | (unfold I64; omega)), (by first | omega | decide | (unfold I64; omega)), (by first | omega | decide | (unfold I64; omega)), (by first | omega | decide | (unfold I64; omega)), (by first | omega | decide | (unfold I64; omega)), (by first | omega | decide | (unfold I64; omega)), round_end (i + 1) (by omega) (ent_of [(2, 2), (4, 4)] rfl (tm_cons rfl (sm_same rfl) (tm_cons rfl (sm_ptr rfl) (tm_cons rfl (sm_ptr rfl) (tm_cons rfl (sm_same rfl) (tm_cons rfl (sm_same rfl) (tm_cons rfl (sm_same rfl) tm_nil)))))) (hp_cons rfl rfl (sm_upd2 ?_ fun x z hx _ hne => ?_) (hp_cons rfl rfl (sm_same rfl) hp_nil))) (by dsimp only; omega)⟩
  ·exact (congrArg (fun z : Nat => u64 z) (if_pos rfl)).symm
  ·conv => rhs; unfold rhoN
   rw [if_neg (by omega)]
 simp only [decide_eq_false_iff_not] at h
 obtain rfl : i = 24 := by omega
 clear h
 refine ⟨⟨rfl, rfl, fun _ _ => ⟨rfl, rfl, fun _ _ => ⟨rfl, rfl⟩⟩⟩, ?_⟩
 refine loop_inv (W := w_rround) ctx mixed ok_rround_4 (I_q4 (rhoN (theta f) 24) k) (fun i => i ≤ 5) (fun i => 5 - i) 0 (by decide) ?_ fun i hi => ?_
 ·exact ent_of [(2, 2), (4, 4), (13, 13)] rfl (tm_cons rfl (sm_same rfl) (tm_cons rfl (sm_ptr rfl) (tm_cons rfl (sm_ptr rfl) (tm_cons rfl (sm_ptr rfl) (tm_cons rfl (sm_same rfl) tm_nil))))) (hp_cons rfl rfl (sm_same rfl) (hp_cons rfl rfl (sm_same rfl) (hp_cons rfl rfl (sm_same rfl) hp_nil)))
 refine of_eq (rround_L4 (rhoN (theta f) 24) k i 0 _) ⟨fun h => ?_, fun h => ?_⟩
 ·simp only [decide_eq_true_eq] at h
  refine loop_inv (W := w_rround) ctx mixed ok_rround_5 (I_q5 (rhoN (theta f) 24) k i) (fun y => y ≤ 5) (fun y => 5 - y) 0 (by decide) ?_ fun y hy => ?_
  ·exact ent_of [(2, 2), (4, 4), (13, 13)] rfl (tm_cons rfl (sm_same rfl) (tm_cons rfl (sm_ptr rfl) (tm_cons rfl (sm_ptr rfl) (tm_cons rfl (sm_ptr rfl) (tm_cons rfl (sm_same rfl) (tm_cons rfl (sm_same rfl) tm_nil)))))) (hp_cons rfl rfl (sm_same rfl) (hp_cons rfl rfl (sm_same rfl) (hp_cons rfl rfl (sm_same rfl) hp_nil)))
  refine of_eq (rround_L5 (rhoN (theta f) 24) k i y 0 _) ⟨fun h2 => ?_, fun h2 => ?_⟩
  ·simp only [decide_eq_true_eq] at h2
   refine ⟨(by first | omega | decide | (unfold I64; omega)), (by first | omega | decide | (unfold I64; omega)), (by first | omega | decide | (unfold I64; omega)), (by first | omega | decide | (unfold I64; omega)), (by first | omega | decide | (unfold I64; omega)), (by first | omega | decide | (unfold I64; omega)), (by first | omega | decide | (unfold I64; omega)), (by first | omega | decide | (unfold I64; omega)), (by first | omega | decide | (unfold I64; omega)), round_end (y + 1) (by omega) (ent_of [(2, 2), (4, 4), (13, 13)] rfl (tm_cons rfl (sm_same rfl) (tm_cons rfl (sm_ptr rfl) (tm_cons rfl (sm_ptr rfl) (tm_cons rfl (sm_ptr rfl) (tm_cons rfl (sm_same rfl) (tm_cons rfl (sm_same rfl) tm_nil)))))) (hp_cons rfl rfl (sm_same rfl) (hp_cons rfl rfl (sm_same rfl) (hp_cons rfl rfl (sm_upd2 ?_ fun x z hx _ hne => ?_) hp_nil)))) (by dsimp only; omega)⟩
   ·show _ = u64 (bR _ (5 * i + y + 1) _)
    unfold bR
    rw [show (5 * i + y) % 5 = y by omega, show (5 * i + y) / 5 = i by omega, if_pos rfl]
   ·show _ = bR _ (5 * i + y + 1) _
    conv => rhs; unfold bR
    rw [show (5 * i + y) % 5 = y by omega, show (5 * i + y) / 5 = i by omega, if_neg (by omega)]
  ·simp only [decide_eq_false_iff_not] at h2
   obtain rfl : y = 5 := by omega
   exact ⟨(by first | omega | decide | (unfold I64; omega)), round_end (i + 1) (by omega) (ent_of [(2, 2), (4, 4), (13, 13)] rfl (tm_cons rfl (sm_same rfl) (tm_cons rfl (sm_ptr rfl) (tm_cons rfl (sm_ptr rfl) (tm_cons rfl (sm_ptr rfl) (tm_cons rfl (sm_same rfl) tm_nil))))) (hp_cons rfl rfl (sm_same rfl) (hp_cons rfl rfl (sm_same rfl) (hp_cons rfl rfl (sm_same rfl) hp_nil)))) (by dsimp only; omega)⟩
 simp only [decide_eq_false_iff_not] at h
 obtain rfl : i = 5 := by omega
 clear h
 have hfin : ∀ x z, x < 5 → z < 5 → bR (rhoN (theta f) 24) (5 * 5) (x + 5 * z) = bN f 25 (x + 5 * z) := fun x z hx hz => bR_end (fun p hp => rho_end (hth 0 (by decide)) hp) (by omega)
 refine loop_inv (W := w_rround) ctx mixed ok_rround_6 (I_q6 (rhoN (theta f) 24) (bN f 25) k) (fun i => i ≤ 5) (fun i => 5 - i) 0 (by decide) ?_ fun i hi => ?_
 ·exact ent_of [(2, 2), (4, 4), (13, 13)] rfl (tm_cons rfl (sm_same rfl) (tm_cons rfl (sm_ptr rfl) (tm_cons rfl (sm_ptr rfl) (tm_cons rfl (sm_ptr rfl) (tm_cons rfl (sm_same rfl) tm_nil))))) (hp_cons rfl rfl (sm_ref fun x y hx _ => (part_none hx).symm) (hp_cons rfl rfl (sm_same rfl) (hp_cons rfl rfl (sm_ref hfin) hp_nil)))
 refine of_eq (rround_L6 (rhoN (theta f) 24) (bN f 25) k i 0 _) ⟨fun h => ?_, fun h => ?_⟩
 ·simp only [decide_eq_true_eq] at h
  refine loop_inv (W := w_rround) ctx mixed ok_rround_7 (I_q7 (rhoN (theta f) 24) (bN f 25) k i) (fun y => y ≤ 5) (fun y => 5 - y) 0 (by decide) ?_ fun y hy => ?_
  ·exact ent_of [(2, 2), (4, 4), (13, 13)] rfl (tm_cons rfl (sm_same rfl) (tm_cons rfl (sm_ptr rfl) (tm_cons rfl (sm_ptr rfl) (tm_cons rfl (sm_ptr rfl) (tm_cons rfl (sm_same rfl) (tm_cons rfl (sm_same rfl) tm_nil)))))) (hp_cons rfl rfl (sm_same rfl) (hp_cons rfl rfl (sm_same rfl) (hp_cons rfl rfl (sm_same rfl) hp_nil)))
  refine of_eq (rround_L7 (rhoN (theta f) 24) (bN f 25) k i y 0 _) ⟨fun h2 => ?_, fun h2 => ?_⟩
  ·simp only [decide_eq_true_eq] at h2
   rw [ones _ (hb _), and64 (Nat.xor_lt_two_pow (by decide) (hb _)) (hb _), xor64 (hb _) (Nat.and_lt_two_pow _ (hb _))]
   refine ⟨(by first | omega | decide | (unfold I64; omega)), (by first | omega | decide | (unfold I64; omega)), (by first | omega | decide | (unfold I64; omega)), (by first | omega | decide | (unfold I64; omega)), (by first | omega | decide | (unfold I64; omega)), (by first | omega | decide | (unfold I64; omega)), (by first | omega | decide | (unfold I64; omega)), (by first | omega | decide | (unfold I64; omega)), (by first | omega | decide | (unfold I64; omega)), (by first | omega | decide | (unfold I64; omega)), (by first | omega | decide | (unfold I64; omega)), (by first | omega | decide | (unfold I64; omega)), (by first | omega | decide | (unfold I64; omega)), round_end (y + 1) (by omega) (ent_of [(2, 2), (4, 4), (13, 13)] rfl (tm_cons rfl (sm_same rfl) (tm_cons rfl (sm_ptr rfl) (tm_cons rfl (sm_ptr rfl) (tm_cons rfl (sm_ptr rfl) (tm_cons rfl (sm_same rfl) (tm_cons rfl (sm_same rfl) tm_nil)))))) (hp_cons rfl rfl (sm_upd2 (by rw [part_new (by omega), chi_at _ (by omega)]) fun x z hx _ hne => part_next hx hne) (hp_cons rfl rfl (sm_same rfl) (hp_cons rfl rfl (sm_same rfl) hp_nil)))) (by dsimp only; omega)⟩
  ·simp only [decide_eq_false_iff_not] at h2
   obtain rfl : y = 5 := by omega
   exact ⟨(by first | omega | decide | (unfold I64; omega)), round_end (i + 1) (by omega) (ent_of [(2, 2), (4, 4), (13, 13)] rfl (tm_cons rfl (sm_same rfl) (tm_cons rfl (sm_ptr rfl) (tm_cons rfl (sm_ptr rfl) (tm_cons rfl (sm_ptr rfl) (tm_cons rfl (sm_same rfl) tm_nil))))) (hp_cons rfl rfl (sm_ref fun x z hx hz => part_row hx hz) (hp_cons rfl rfl (sm_same rfl) (hp_cons rfl rfl (sm_same rfl) hp_nil)))) (by dsimp only; omega)⟩
 simp only [decide_eq_false_iff_not] at h
 obtain rfl : i = 5 := by omega
 have hp0 : part (chi (bN f 25)) (rhoN (theta f) 24) 5 0 0 = chi (bN f 25) 0 := part_all (x := 0) (z := 0) (by decide)
 rw [hp0, xor64 (chi_lt hb 0) hk]
 refine ⟨(by first | omega | decide | (unfold I64; omega)), (by first | omega | decide | (unfold I64; omega)), (by first | omega | decide | (unfold I64; omega)), (by first | omega | decide | (unfold I64; omega)), ⟨rfl, rfl, fun i hi => ?_⟩, post_cell rfl rfl (sm_upd2 ?_ fun x z hx _ hne => ?_) rfl⟩
 ·by_cases e : i = 0
  ·rw [if_pos e]
   refine ⟨rfl, rfl, fun j _ => ?_⟩
   dsimp only
   by_cases e2 : j = 0
   ·rw [if_pos e2]; exact ⟨rfl, rfl⟩
   ·rw [if_neg e2]; exact ⟨rfl, rfl⟩
  ·rw [if_neg e]; exact ⟨rfl, rfl, fun _ _ => ⟨rfl, rfl⟩⟩
 ·rfl
 ·rw [part_all hx]
  unfold roundN
  rw [if_neg (by omega)]
end Go.Bu.W
namespace Go.Bu.W
open Sp
def w_rsum : Way := wayS [0, 2, 3, 4, 5, 6, 7, 8, 9, 10, 11, 12, 22, 39, 43, 47, 79, 89] 105 [5,24]
def tail0 (l : List Nat) (i : Nat) : Nat := if i < l.length then l.getD i 0 else if i = l.length then 6 else 0
def padLen (l : List Nat) : Nat := 136 * (l.length / 136 + 1)
def padN (l : List Nat) (i : Nat) : Nat := tail0 l i + (if i = 136 * (l.length / 136) + 135 then 128 else 0)
def stR (l : List Nat) : Nat → Nat → Nat
 | 0 => fun _ => 0
 | m + 1 => mixN (stR l m) (fun i => padN l (136 * m + i)) 136
def absR (a b : Nat → Nat) (from' i p : Nat) : Nat := if p < i then a p ^^^ wN b (from' + 8 * p) 8 else a p
def I_rs0 (l : List Nat) (n : Nat) : St := { tm := [(2, .ptr 2 []), (3, .sl 3 [] 0 n n false 1)], hp := [(2, .c (zb 32)), (3, .c (ab n (tail0 l)))], seen := [2, 3] }
def S_rs5 (l : List Nat) : St := I_rs0 l (padLen l)
def I_rs1 (l : List Nat) (m : Nat) : St := { tm := [(2, .ptr 2 []), (3, .sl 3 [] 0 (padLen l) (padLen l) false 1), (4, .ptr 4 []), (5, .ptr 5 []), (6, i64 (136 * m))], hp := [(2, .c (zb 32)), (3, .c (ab (padLen l) (padN l))), (4, .c (refArr (stR l m))), (5, .c wordsR)], seen := [2, 3, 4, 5] }
def I_rs2 (l : List Nat) (m i : Nat) : St := { tm := [(2, .ptr 2 []), (3, .sl 3 [] 0 (padLen l) (padLen l) false 1), (4, .ptr 4 []), (5, .ptr 5 []), (6, i64 (136 * m)), (7, i64 i)], hp := [(2, .c (zb 32)), (3, .c (ab (padLen l) (padN l))), (4, .c (refArr (absR (stR l m) (padN l) (136 * m) i))), (5, .c wordsR)], seen := [2, 3, 4, 5] }
def I_rs3 (l : List Nat) (m i n : Nat) : St := { tm := [(2, .ptr 2 []), (3, .sl 3 [] 0 (padLen l) (padLen l) false 1), (4, .ptr 4 []), (5, .ptr 5 []), (6, i64 (136 * m)), (7, i64 i), (8, u64 (wN (padN l) (136 * m + 8 * i) n)), (9, .i (7 - (n : Int)))], hp := [(2, .c (zb 32)), (3, .c (ab (padLen l) (padN l))), (4, .c (refArr (absR (stR l m) (padN l) (136 * m) i))), (5, .c wordsR)], seen := [2, 3, 4, 5] }
def I_rs4 (l : List Nat) (m : Nat) (a : Nat → Nat) (t : Nat) : St := { tm := [(2, .ptr 2 []), (3, .sl 3 [] 0 (padLen l) (padLen l) false 1), (4, .ptr 4 []), (5, .ptr 5 []), (6, i64 (136 * m)), (10, i64 t)], hp := [(2, .c (zb 32)), (3, .c (ab (padLen l) (padN l))), (4, .c (refArr (permN a t))), (5, .c wordsR)], seen := [2, 3, 4, 5] }
def outN (a : Nat → Nat) (i : Nat) : Nat := (a (i / 8) >>> (8 * (i % 8))) % 256
def S_rs24 (a : Nat → Nat) : St := { tm := [(2, .ptr 2 []), (4, .ptr 4 [])], hp := [(2, .c (zb 32)), (4, .c (refArr a))], seen := [2, 4] }
def I_rs5 (a : Nat → Nat) (i : Nat) : St := { tm := [(2, .ptr 2 []), (4, .ptr 4 []), (11, .ptr 11 []), (12, i64 i)], hp := [(2, .c (zb 32)), (4, .c (refArr a)), (11, .c (ab 32 (fun k => if k < i then outN a k else 0)))], seen := [2, 4, 11] }
theorem rsum_A (ex : Bool) (l : List Nat) {D : Dom} (K : Nat) (Φ : Ex → St → Prop) :
 (Holds C P 105 D K Φ (vc C w_rsum b_rsum [] (start [.dat l.length ex 1 (rowL l)] []) lf)) =
 (((((0 : Nat) + (List.length l)) * (1 : Nat)) ≤ (140737488355328 : Nat)) ∧
 ((((((0 : Nat) + (List.length l)) + (1 : Nat)) * (1 : Nat)) ≤ (140737488355328 : Nat)) ∧
 (LoopOK C P (105 : Nat) D K (bodyAt b_rsum [1, 1, 1, 0, 0]) (St.mk [((0 : Nat), (AV.dat (List.length l) ex (1 : Nat) (rowL l))), ((2 : Nat), (AV.ptr (2 : Nat) [])), ((3 : Nat), (AV.sl (18 : Nat) [] (0 : Nat) (((0 : Nat) + (List.length l)) + (1 : Nat)) (((0 : Nat) + (List.length l)) + (1 : Nat)) false (1 : Nat)))] [((2 : Nat), (Blk.c (AV.arr (32 : Nat) (1 : Nat) (fun (x : Nat) => (AV.v (Value.int IntKind.u8 (0 : Int))))))), ((17 : Nat), (Blk.c (AV.st [(AV.v (Value.int IntKind.u8 (6 : Int)))]))), ((18 : Nat), (Blk.c (AV.arr (((0 : Nat) + (List.length l)) + (1 : Nat)) (1 : Nat) (cat ((0 : Nat) + (List.length l)) (fun (i : Nat) => (AV.v (Value.int IntKind.u8 (((List.getD l ((0 : Nat) + i) (0 : Nat)) : Nat) : Int)))) (fun (i : Nat) => (nthD [(AV.v (Value.int IntKind.u8 (6 : Int)))] ((0 : Nat) + i) (AV.v (Value.tuple #[]))))))))] [(18 : Nat), (17 : Nat), (15 : Nat), (13 : Nat), (2 : Nat)]) (fun (e : Ex) (S' : St) => Holds C P (105 : Nat) D K Φ (after C w_rsum b_rsum [1, 1, 1, 0, 0] [] lf e S'))))) := by kernel_rfl
noncomputable abbrev bd_rsum_0 : Code := bodyAt (b_rsum) [1, 1, 1, 0, 0]
theorem ok_rsum_0 : codeOK bd_rsum_0 = true := by kernel_rfl
noncomputable abbrev rest_rsum_0 (D : Dom) (K : Nat) (Φ : Ex → St → Prop) : Ex → St → Prop := fun e S' => Holds C P 105 D K Φ (after C w_rsum (b_rsum) [1, 1, 1, 0, 0] [] lf e S')
theorem rsum_L0 (l : List Nat) (n : Nat) {D : Dom} (K : Nat) (Φ : Ex → St → Prop) :
 (Holds C P 105 D K (RoundQ C 105 D K (I_rs0 l) (fun n => l.length < n ∧ n ≤ padLen l) (fun n => padLen l - n) ((fun n => padLen l - n) (n)) (rest_rsum_0 D K Φ)) (vc C w_rsum bd_rsum_0 [] ((I_rs0 l) (n)) lf)) =
 (((136 : Int) ≠ (0 : Int)) ∧
 ((((((n % 136) : Nat) : Int) != (0 : Int)) = true → 
 ((((n + (1 : Nat)) * (1 : Nat)) ≤ (140737488355328 : Nat)) ∧
 ((RoundQ C 105 D K (I_rs0 l) (fun n => l.length < n ∧ n ≤ padLen l) (fun n => padLen l - n) ((fun n => padLen l - n) (n)) (rest_rsum_0 D K Φ)) Ex.normal (St.mk [((2 : Nat), (AV.ptr (2 : Nat) [])), ((3 : Nat), (AV.sl (25 : Nat) [] (0 : Nat) (n + (1 : Nat)) (n + (1 : Nat)) false (1 : Nat))), ((22 : Nat), (AV.v (Value.bool true)))] [((2 : Nat), (Blk.c (AV.arr (32 : Nat) (1 : Nat) (fun (x : Nat) => (AV.v (Value.int IntKind.u8 (0 : Int))))))), ((24 : Nat), (Blk.c (AV.st [(AV.v (Value.int IntKind.u8 (0 : Int)))]))), ((25 : Nat), (Blk.c (AV.arr (n + (1 : Nat)) (1 : Nat) (cat n (fun (i : Nat) => (AV.v (Value.int IntKind.u8 (((tail0 l ((0 : Nat) + i)) : Nat) : Int)))) (fun (i : Nat) => (nthD [(AV.v (Value.int IntKind.u8 (0 : Int)))] ((0 : Nat) + i) (AV.v (Value.tuple #[]))))))))] [(25 : Nat), (24 : Nat), (2 : Nat), (3 : Nat)])))) ∧
 (((((n % 136) : Nat) : Int) != (0 : Int)) = false → 
 (∃ (S2 : St), Ent C (105 : Nat) D K (St.mk [((2 : Nat), (AV.ptr (2 : Nat) [])), ((3 : Nat), (AV.sl (3 : Nat) [] (0 : Nat) n n false (1 : Nat))), ((22 : Nat), (AV.v (Value.bool false)))] [((2 : Nat), (Blk.c (AV.arr (32 : Nat) (1 : Nat) (fun (x : Nat) => (AV.v (Value.int IntKind.u8 (0 : Int))))))), ((3 : Nat), (Blk.c (AV.arr n (1 : Nat) (fun (i : Nat) => (AV.v (Value.int IntKind.u8 (((tail0 l i) : Nat) : Int)))))))] [(2 : Nat), (3 : Nat)]) S2 ∧ Holds C P (105 : Nat) D K Φ (cutAt C w_rsum b_rsum [1, 1, 1, 1, 0] S2 (after C w_rsum b_rsum [1, 1, 1, 1, 0] [] lf)))))) := by kernel_rfl
theorem rsum_C5 (l : List Nat) {D : Dom} (K : Nat) (Φ : Ex → St → Prop) :
 (Holds C P 105 D K Φ (cutAt C w_rsum b_rsum [1, 1, 1, 1, 0] (S_rs5 l) (after C w_rsum b_rsum [1, 1, 1, 1, 0] [] lf))) =
 ((I64 ((((padLen l) : Nat) : Int) - (1 : Int))) ∧
 ((((0 : Int) ≤ ((((padLen l) : Nat) : Int) - (1 : Int))) ∧ (((((padLen l) : Nat) : Int) - (1 : Int)) < (((padLen l) : Nat) : Int))) ∧
 ((((0 : Int) ≤ ((((padLen l) : Nat) : Int) - (1 : Int))) ∧ (((((padLen l) : Nat) : Int) - (1 : Int)) < (((padLen l) : Nat) : Int))) ∧
 ((((5 : Nat) = (5 : Nat)) ∧ (((5 : Nat) = (5 : Nat)) ∧ (∀ (i : Nat), ((i < (5 : Nat)) → (((5 : Nat) = (5 : Nat)) ∧ (((1 : Nat) = (1 : Nat)) ∧ (∀ (i1 : Nat), ((i1 < (5 : Nat)) → ((true = true) ∧ (true = true)))))))))) ∧
 (Fun C P (56 : Nat) [] [] (AV.arr (24 : Nat) (1 : Nat) (fun (i : Nat) => (AV.v (Value.int IntKind.u64 (((Sp.wordsN i) : Nat) : Int))))) [] ∧
 ((∀ (i : Nat), ((i < (24 : Nat)) → True)) ∧
 ((((24 : Nat) = (24 : Nat)) ∧ (((1 : Nat) = (1 : Nat)) ∧ (∀ (i : Nat), ((i < (24 : Nat)) → ((true = true) ∧ (Bool.true = true)))))) ∧
 (LoopOK C P (105 : Nat) D K (bodyAt b_rsum [1, 1, 1, 1, 1, 1, 1, 0, 1, 0]) (St.mk [((2 : Nat), (AV.ptr (2 : Nat) [])), ((3 : Nat), (AV.sl (3 : Nat) [] (0 : Nat) (padLen l) (padLen l) false (1 : Nat))), ((4 : Nat), (AV.ptr (4 : Nat) [])), ((5 : Nat), (AV.ptr (5 : Nat) [])), ((6 : Nat), (AV.v (Value.int IntKind.i64 (0 : Int))))] [((2 : Nat), (Blk.c (AV.arr (32 : Nat) (1 : Nat) (fun (x : Nat) => (AV.v (Value.int IntKind.u8 (0 : Int))))))), ((3 : Nat), (Blk.c (AV.arr (padLen l) (1 : Nat) (fun (j : Nat) => (if (j = ((0 : Nat) + (Int.toNat ((((padLen l) : Nat) : Int) - (1 : Int))))) then (AV.v (Value.int IntKind.u8 (IntKind.wrap IntKind.u8 ((((tail0 l ((0 : Nat) + (Int.toNat ((((padLen l) : Nat) : Int) - (1 : Int))))) + 128) : Nat) : Int)))) else (AV.v (Value.int IntKind.u8 (((tail0 l j) : Nat) : Int)))))))), ((4 : Nat), (Blk.c (AV.arr (5 : Nat) (5 : Nat) (fun (x : Nat) => (AV.arr (5 : Nat) (1 : Nat) (fun (x1 : Nat) => (AV.v (Value.int IntKind.u64 (0 : Int))))))))), ((5 : Nat), (Blk.c (AV.arr (24 : Nat) (1 : Nat) (fun (i : Nat) => (AV.v (Value.int IntKind.u64 (((Sp.wordsN i) : Nat) : Int)))))))] [(5 : Nat), (4 : Nat), (2 : Nat), (3 : Nat)]) (fun (e : Ex) (S' : St) => Holds C P (105 : Nat) D K Φ (after C w_rsum b_rsum [1, 1, 1, 1, 1, 1, 1, 0, 1, 0] [] lf e S')))))))))) := by kernel_rfl
noncomputable abbrev bd_rsum_1 : Code := bodyAt (b_rsum) [1, 1, 1, 1, 1, 1, 1, 0, 1, 0]
theorem ok_rsum_1 : codeOK bd_rsum_1 = true := by kernel_rfl
noncomputable abbrev rest_rsum_1 (D : Dom) (K : Nat) (Φ : Ex → St → Prop) : Ex → St → Prop := fun e S' => Holds C P 105 D K Φ (after C w_rsum (b_rsum) [1, 1, 1, 1, 1, 1, 1, 0, 1, 0] [] lf e S')
theorem rsum_L1 (l : List Nat) (m : Nat) {D : Dom} (K : Nat) (Φ : Ex → St → Prop) :
 (Holds C P 105 D K (RoundQ C 105 D K (I_rs1 l) (fun m => m ≤ l.length / 136 + 1) (fun m => l.length / 136 + 1 - m) ((fun m => l.length / 136 + 1 - m) (m)) (rest_rsum_1 D K Φ)) (vc C w_rsum bd_rsum_1 [] ((I_rs1 l) (m)) lf)) =
 (((decide (((((136 : Nat) * m) : Nat) : Int) < (((padLen l) : Nat) : Int))) = true → 
 (LoopOK C P (105 : Nat) D K (bodyAt bd_rsum_1 [1, 0, 0, 0, 1, 0]) (St.mk [((2 : Nat), (AV.ptr (2 : Nat) [])), ((3 : Nat), (AV.sl (3 : Nat) [] (0 : Nat) (padLen l) (padLen l) false (1 : Nat))), ((4 : Nat), (AV.ptr (4 : Nat) [])), ((5 : Nat), (AV.ptr (5 : Nat) [])), ((6 : Nat), (AV.v (Value.int IntKind.i64 ((((136 : Nat) * m) : Nat) : Int)))), ((7 : Nat), (AV.v (Value.int IntKind.i64 (0 : Int)))), ((39 : Nat), (AV.v (Value.bool true)))] [((2 : Nat), (Blk.c (AV.arr (32 : Nat) (1 : Nat) (fun (x : Nat) => (AV.v (Value.int IntKind.u8 (0 : Int))))))), ((3 : Nat), (Blk.c (AV.arr (padLen l) (1 : Nat) (fun (i : Nat) => (AV.v (Value.int IntKind.u8 (((padN l i) : Nat) : Int))))))), ((4 : Nat), (Blk.c (AV.arr (5 : Nat) (5 : Nat) (fun (x : Nat) => (AV.arr (5 : Nat) (1 : Nat) (fun (y : Nat) => (AV.v (Value.int IntKind.u64 (((stR l m (x + ((5 : Nat) * y))) : Nat) : Int))))))))), ((5 : Nat), (Blk.c (AV.arr (24 : Nat) (1 : Nat) (fun (i : Nat) => (AV.v (Value.int IntKind.u64 (((Sp.wordsN i) : Nat) : Int)))))))] [(2 : Nat), (3 : Nat), (4 : Nat), (5 : Nat)]) (fun (e : Ex) (S' : St) => Holds C P (105 : Nat) D K (RoundQ C 105 D K (I_rs1 l) (fun m => m ≤ l.length / 136 + 1) (fun m => l.length / 136 + 1 - m) ((fun m => l.length / 136 + 1 - m) (m)) (rest_rsum_1 D K Φ)) (after C w_rsum bd_rsum_1 [1, 0, 0, 0, 1, 0] [] lf e S')))) ∧
 ((decide (((((136 : Nat) * m) : Nat) : Int) < (((padLen l) : Nat) : Int))) = false → 
 (∃ (S2 : St), Ent C (105 : Nat) D K (St.mk [((2 : Nat), (AV.ptr (2 : Nat) [])), ((3 : Nat), (AV.sl (3 : Nat) [] (0 : Nat) (padLen l) (padLen l) false (1 : Nat))), ((4 : Nat), (AV.ptr (4 : Nat) [])), ((5 : Nat), (AV.ptr (5 : Nat) [])), ((6 : Nat), (AV.v (Value.int IntKind.i64 ((((136 : Nat) * m) : Nat) : Int)))), ((39 : Nat), (AV.v (Value.bool false)))] [((2 : Nat), (Blk.c (AV.arr (32 : Nat) (1 : Nat) (fun (x : Nat) => (AV.v (Value.int IntKind.u8 (0 : Int))))))), ((3 : Nat), (Blk.c (AV.arr (padLen l) (1 : Nat) (fun (i : Nat) => (AV.v (Value.int IntKind.u8 (((padN l i) : Nat) : Int))))))), ((4 : Nat), (Blk.c (AV.arr (5 : Nat) (5 : Nat) (fun (x : Nat) => (AV.arr (5 : Nat) (1 : Nat) (fun (y : Nat) => (AV.v (Value.int IntKind.u64 (((stR l m (x + ((5 : Nat) * y))) : Nat) : Int))))))))), ((5 : Nat), (Blk.c (AV.arr (24 : Nat) (1 : Nat) (fun (i : Nat) => (AV.v (Value.int IntKind.u64 (((Sp.wordsN i) : Nat) : Int)))))))] [(2 : Nat), (3 : Nat), (4 : Nat), (5 : Nat)]) S2 ∧ Holds C P (105 : Nat) D K Φ (cutAt C w_rsum b_rsum [1, 1, 1, 1, 1, 1, 1, 1, 0] S2 (after C w_rsum b_rsum [1, 1, 1, 1, 1, 1, 1, 1, 0] [] lf))))) := by kernel_rfl
noncomputable abbrev bd_rsum_2 : Code := bodyAt (bd_rsum_1) [1, 0, 0, 0, 1, 0]
theorem ok_rsum_2 : codeOK bd_rsum_2 = true := by kernel_rfl
noncomputable abbrev rest_rsum_2 (D : Dom) (K : Nat) (Φ : Ex → St → Prop) : Ex → St → Prop := fun e S' => Holds C P 105 D K Φ (after C w_rsum (bd_rsum_1) [1, 0, 0, 0, 1, 0] [] lf e S')
theorem rsum_L2 (l : List Nat) (m i : Nat) {D : Dom} (K : Nat) (Φ : Ex → St → Prop) :
 (Holds C P 105 D K (RoundQ C 105 D K (I_rs2 l m) (fun i => i ≤ 17) (fun i => 17 - i) ((fun i => 17 - i) (i)) (rest_rsum_2 D K Φ)) (vc C w_rsum bd_rsum_2 [] ((I_rs2 l m) (i)) lf)) =
 (((decide (((i : Nat) : Int) < (17 : Int))) = true → 
 (LoopOK C P (105 : Nat) D K (bodyAt bd_rsum_2 [1, 0, 0, 1, 0, 1, 0]) (St.mk [((2 : Nat), (AV.ptr (2 : Nat) [])), ((3 : Nat), (AV.sl (3 : Nat) [] (0 : Nat) (padLen l) (padLen l) false (1 : Nat))), ((4 : Nat), (AV.ptr (4 : Nat) [])), ((5 : Nat), (AV.ptr (5 : Nat) [])), ((6 : Nat), (AV.v (Value.int IntKind.i64 ((((136 : Nat) * m) : Nat) : Int)))), ((7 : Nat), (AV.v (Value.int IntKind.i64 ((i : Nat) : Int)))), ((8 : Nat), (AV.v (Value.int IntKind.u64 (0 : Int)))), ((9 : Nat), (AV.v (Value.int IntKind.i64 (7 : Int)))), ((43 : Nat), (AV.v (Value.bool true)))] [((2 : Nat), (Blk.c (AV.arr (32 : Nat) (1 : Nat) (fun (x : Nat) => (AV.v (Value.int IntKind.u8 (0 : Int))))))), ((3 : Nat), (Blk.c (AV.arr (padLen l) (1 : Nat) (fun (i1 : Nat) => (AV.v (Value.int IntKind.u8 (((padN l i1) : Nat) : Int))))))), ((4 : Nat), (Blk.c (AV.arr (5 : Nat) (5 : Nat) (fun (x : Nat) => (AV.arr (5 : Nat) (1 : Nat) (fun (y : Nat) => (AV.v (Value.int IntKind.u64 (((absR (stR l m) (padN l) ((136 : Nat) * m) i (x + ((5 : Nat) * y))) : Nat) : Int))))))))), ((5 : Nat), (Blk.c (AV.arr (24 : Nat) (1 : Nat) (fun (i1 : Nat) => (AV.v (Value.int IntKind.u64 (((Sp.wordsN i1) : Nat) : Int)))))))] [(2 : Nat), (3 : Nat), (4 : Nat), (5 : Nat)]) (fun (e : Ex) (S' : St) => Holds C P (105 : Nat) D K (RoundQ C 105 D K (I_rs2 l m) (fun i => i ≤ 17) (fun i => 17 - i) ((fun i => 17 - i) (i)) (rest_rsum_2 D K Φ)) (after C w_rsum bd_rsum_2 [1, 0, 0, 1, 0, 1, 0] [] lf e S')))) ∧
 ((decide (((i : Nat) : Int) < (17 : Int))) = false → 
 (LoopOK C P (105 : Nat) D K (bodyAt bd_rsum_1 [1, 0, 0, 1, 1, 0]) (St.mk [((2 : Nat), (AV.ptr (2 : Nat) [])), ((3 : Nat), (AV.sl (3 : Nat) [] (0 : Nat) (padLen l) (padLen l) false (1 : Nat))), ((4 : Nat), (AV.ptr (4 : Nat) [])), ((5 : Nat), (AV.ptr (5 : Nat) [])), ((6 : Nat), (AV.v (Value.int IntKind.i64 ((((136 : Nat) * m) : Nat) : Int)))), ((7 : Nat), (AV.v (Value.int IntKind.i64 ((i : Nat) : Int)))), ((10 : Nat), (AV.v (Value.int IntKind.i64 (0 : Int)))), ((43 : Nat), (AV.v (Value.bool false)))] [((2 : Nat), (Blk.c (AV.arr (32 : Nat) (1 : Nat) (fun (x : Nat) => (AV.v (Value.int IntKind.u8 (0 : Int))))))), ((3 : Nat), (Blk.c (AV.arr (padLen l) (1 : Nat) (fun (i1 : Nat) => (AV.v (Value.int IntKind.u8 (((padN l i1) : Nat) : Int))))))), ((4 : Nat), (Blk.c (AV.arr (5 : Nat) (5 : Nat) (fun (x : Nat) => (AV.arr (5 : Nat) (1 : Nat) (fun (y : Nat) => (AV.v (Value.int IntKind.u64 (((absR (stR l m) (padN l) ((136 : Nat) * m) i (x + ((5 : Nat) * y))) : Nat) : Int))))))))), ((5 : Nat), (Blk.c (AV.arr (24 : Nat) (1 : Nat) (fun (i1 : Nat) => (AV.v (Value.int IntKind.u64 (((Sp.wordsN i1) : Nat) : Int)))))))] [(2 : Nat), (3 : Nat), (4 : Nat), (5 : Nat)]) (fun (e : Ex) (S' : St) => Holds C P (105 : Nat) D K Φ (after C w_rsum bd_rsum_1 [1, 0, 0, 1, 1, 0] [] lf e S'))))) := by kernel_rfl
noncomputable abbrev bd_rsum_3 : Code := bodyAt (bd_rsum_2) [1, 0, 0, 1, 0, 1, 0]
theorem ok_rsum_3 : codeOK bd_rsum_3 = true := by kernel_rfl
noncomputable abbrev rest_rsum_3 (D : Dom) (K : Nat) (Φ : Ex → St → Prop) : Ex → St → Prop := fun e S' => Holds C P 105 D K Φ (after C w_rsum (bd_rsum_2) [1, 0, 0, 1, 0, 1, 0] [] lf e S')
theorem rsum_L3 (l : List Nat) (m i n : Nat) {D : Dom} (K : Nat) (Φ : Ex → St → Prop) :
 (Holds C P 105 D K (RoundQ C 105 D K (I_rs3 l m i) (fun n => n ≤ 8) (fun n => 8 - n) ((fun n => 8 - n) (n)) (rest_rsum_3 D K Φ)) (vc C w_rsum bd_rsum_3 [] ((I_rs3 l m i) (n)) lf)) =
 (((decide (((7 : Int) - ((n : Nat) : Int)) ≥ (0 : Int))) = true → 
 (((0 : Int) ≤ (8 : Int)) ∧
 ((I64 (((8 * i) : Nat) : Int)) ∧
 ((I64 (((((136 : Nat) * m) + (8 * i)) : Nat) : Int)) ∧
 ((I64 ((((((136 : Nat) * m) + (8 * i)) : Nat) : Int) + ((7 : Int) - ((n : Nat) : Int)))) ∧
 ((((0 : Int) ≤ ((((((136 : Nat) * m) + (8 * i)) : Nat) : Int) + ((7 : Int) - ((n : Nat) : Int)))) ∧ (((((((136 : Nat) * m) + (8 * i)) : Nat) : Int) + ((7 : Int) - ((n : Nat) : Int))) < (((padLen l) : Nat) : Int))) ∧
 ((I64 (((7 : Int) - ((n : Nat) : Int)) - (1 : Int))) ∧
 ((RoundQ C 105 D K (I_rs3 l m i) (fun n => n ≤ 8) (fun n => 8 - n) ((fun n => 8 - n) (n)) (rest_rsum_3 D K Φ)) Ex.normal (St.mk [((2 : Nat), (AV.ptr (2 : Nat) [])), ((3 : Nat), (AV.sl (3 : Nat) [] (0 : Nat) (padLen l) (padLen l) false (1 : Nat))), ((4 : Nat), (AV.ptr (4 : Nat) [])), ((5 : Nat), (AV.ptr (5 : Nat) [])), ((6 : Nat), (AV.v (Value.int IntKind.i64 ((((136 : Nat) * m) : Nat) : Int)))), ((7 : Nat), (AV.v (Value.int IntKind.i64 ((i : Nat) : Int)))), ((8 : Nat), (AV.v (Value.int IntKind.u64 (bOr IntKind.u64 (bShl IntKind.u64 (((Sp.wN (padN l) (((136 : Nat) * m) + ((8 : Nat) * i)) n) : Nat) : Int) (8 : Int)) (IntKind.wrap IntKind.u64 (((padN l ((0 : Nat) + (Int.toNat ((((((136 : Nat) * m) + (8 * i)) : Nat) : Int) + ((7 : Int) - ((n : Nat) : Int)))))) : Nat) : Int)))))), ((9 : Nat), (AV.v (Value.int IntKind.i64 (((7 : Int) - ((n : Nat) : Int)) - (1 : Int))))), ((47 : Nat), (AV.v (Value.bool true)))] [((2 : Nat), (Blk.c (AV.arr (32 : Nat) (1 : Nat) (fun (x : Nat) => (AV.v (Value.int IntKind.u8 (0 : Int))))))), ((3 : Nat), (Blk.c (AV.arr (padLen l) (1 : Nat) (fun (i1 : Nat) => (AV.v (Value.int IntKind.u8 (((padN l i1) : Nat) : Int))))))), ((4 : Nat), (Blk.c (AV.arr (5 : Nat) (5 : Nat) (fun (x : Nat) => (AV.arr (5 : Nat) (1 : Nat) (fun (y : Nat) => (AV.v (Value.int IntKind.u64 (((absR (stR l m) (padN l) ((136 : Nat) * m) i (x + ((5 : Nat) * y))) : Nat) : Int))))))))), ((5 : Nat), (Blk.c (AV.arr (24 : Nat) (1 : Nat) (fun (i1 : Nat) => (AV.v (Value.int IntKind.u64 (((Sp.wordsN i1) : Nat) : Int)))))))] [(2 : Nat), (3 : Nat), (4 : Nat), (5 : Nat)]))))))))) ∧
 ((decide (((7 : Int) - ((n : Nat) : Int)) ≥ (0 : Int))) = false → 
 (((5 : Int) ≠ (0 : Int)) ∧
 (((5 : Int) ≠ (0 : Int)) ∧
 ((I64 (((i / 5) : Nat) : Int)) ∧
 (((5 : Int) ≠ (0 : Int)) ∧
 (((5 : Int) ≠ (0 : Int)) ∧
 ((I64 (((i / 5) : Nat) : Int)) ∧
 ((((0 : Int) ≤ (((i % 5) : Nat) : Int)) ∧ ((((i % 5) : Nat) : Int) < (5 : Int))) ∧
 ((((0 : Int) ≤ (((i / 5) : Nat) : Int)) ∧ ((((i / 5) : Nat) : Int) < (5 : Int))) ∧
 ((((0 : Int) ≤ (((i % 5) : Nat) : Int)) ∧ ((((i % 5) : Nat) : Int) < (5 : Int))) ∧
 ((((0 : Int) ≤ (((i / 5) : Nat) : Int)) ∧ ((((i / 5) : Nat) : Int) < (5 : Int))) ∧
 ((I64 (((i + 1) : Nat) : Int)) ∧
 (Φ Ex.normal (St.mk [((2 : Nat), (AV.ptr (2 : Nat) [])), ((3 : Nat), (AV.sl (3 : Nat) [] (0 : Nat) (padLen l) (padLen l) false (1 : Nat))), ((4 : Nat), (AV.ptr (4 : Nat) [])), ((5 : Nat), (AV.ptr (5 : Nat) [])), ((6 : Nat), (AV.v (Value.int IntKind.i64 ((((136 : Nat) * m) : Nat) : Int)))), ((7 : Nat), (AV.v (Value.int IntKind.i64 (((i + 1) : Nat) : Int)))), ((8 : Nat), (AV.v (Value.int IntKind.u64 (((Sp.wN (padN l) (((136 : Nat) * m) + ((8 : Nat) * i)) n) : Nat) : Int)))), ((9 : Nat), (AV.v (Value.int IntKind.i64 ((7 : Int) - ((n : Nat) : Int))))), ((47 : Nat), (AV.v (Value.bool false)))] [((2 : Nat), (Blk.c (AV.arr (32 : Nat) (1 : Nat) (fun (x : Nat) => (AV.v (Value.int IntKind.u8 (0 : Int))))))), ((3 : Nat), (Blk.c (AV.arr (padLen l) (1 : Nat) (fun (i1 : Nat) => (AV.v (Value.int IntKind.u8 (((padN l i1) : Nat) : Int))))))), ((4 : Nat), (Blk.c (AV.arr (5 : Nat) (5 : Nat) (fun (j : Nat) => (if (j = (i % 5)) then (AV.arr (5 : Nat) (1 : Nat) (fun (j1 : Nat) => (if (j1 = (i / 5)) then (AV.v (Value.int IntKind.u64 (bXor IntKind.u64 (((absR (stR l m) (padN l) ((136 : Nat) * m) i ((i % 5) + ((5 : Nat) * (i / 5)))) : Nat) : Int) (((Sp.wN (padN l) (((136 : Nat) * m) + ((8 : Nat) * i)) n) : Nat) : Int)))) else (AV.v (Value.int IntKind.u64 (((absR (stR l m) (padN l) ((136 : Nat) * m) i ((i % 5) + ((5 : Nat) * j1))) : Nat) : Int)))))) else (AV.arr (5 : Nat) (1 : Nat) (fun (y : Nat) => (AV.v (Value.int IntKind.u64 (((absR (stR l m) (padN l) ((136 : Nat) * m) i (j + ((5 : Nat) * y))) : Nat) : Int)))))))))), ((5 : Nat), (Blk.c (AV.arr (24 : Nat) (1 : Nat) (fun (i1 : Nat) => (AV.v (Value.int IntKind.u64 (((Sp.wordsN i1) : Nat) : Int)))))))] [(2 : Nat), (3 : Nat), (4 : Nat), (5 : Nat)]))))))))))))))) := by kernel_rfl
noncomputable abbrev bd_rsum_4 : Code := bodyAt (bd_rsum_1) [1, 0, 0, 1, 1, 0]
theorem ok_rsum_4 : codeOK bd_rsum_4 = true := by kernel_rfl
noncomputable abbrev rest_rsum_4 (D : Dom) (K : Nat) (Φ : Ex → St → Prop) : Ex → St → Prop := fun e S' => Holds C P 105 D K Φ (after C w_rsum (bd_rsum_1) [1, 0, 0, 1, 1, 0] [] lf e S')
theorem rsum_L4 (l : List Nat) (m : Nat) (a : Nat → Nat) (t : Nat) {D : Dom} (K : Nat) (Φ : Ex → St → Prop) :
 (Holds C P 105 D K (RoundQ C 105 D K (I_rs4 l m a) (fun t => t ≤ 24) (fun t => 24 - t) ((fun t => 24 - t) (t)) (rest_rsum_4 D K Φ)) (vc C w_rsum bd_rsum_4 [] ((I_rs4 l m a) (t)) lf)) =
 (((decide (((t : Nat) : Int) < (24 : Int))) = true → 
 ((((0 : Int) ≤ ((t : Nat) : Int)) ∧ (((t : Nat) : Int) < (24 : Int))) ∧
 (Fun C P (57 : Nat) [(AV.arr (5 : Nat) (5 : Nat) (fun (x : Nat) => (AV.arr (5 : Nat) (1 : Nat) (fun (y : Nat) => (AV.v (Value.int IntKind.u64 (((Sp.permN a t (x + ((5 : Nat) * y))) : Nat) : Int))))))), (AV.v (Value.int IntKind.u64 (((Sp.wordsN t) : Nat) : Int)))] [] (AV.arr (5 : Nat) (5 : Nat) (fun (x : Nat) => (AV.arr (5 : Nat) (1 : Nat) (fun (y : Nat) => (AV.v (Value.int IntKind.u64 (((Sp.roundN (flatN (fun (x1 : Nat) => (AV.arr (5 : Nat) (1 : Nat) (fun (y1 : Nat) => (AV.v (Value.int IntKind.u64 (((Sp.permN a t (x1 + ((5 : Nat) * y1))) : Nat) : Int))))))) (Sp.wordsN t) (x + ((5 : Nat) * y))) : Nat) : Int))))))) [] ∧
 ((∀ (i : Nat), ((i < (5 : Nat)) → (∀ (i1 : Nat), ((i1 < (5 : Nat)) → True)))) ∧
 ((((5 : Nat) = (5 : Nat)) ∧ (((5 : Nat) = (5 : Nat)) ∧ (∀ (i : Nat), ((i < (5 : Nat)) → (((5 : Nat) = (5 : Nat)) ∧ (((1 : Nat) = (1 : Nat)) ∧ (∀ (i1 : Nat), ((i1 < (5 : Nat)) → ((Bool.true = true) ∧ (Bool.true = true)))))))))) ∧
 ((I64 (((t + 1) : Nat) : Int)) ∧
 ((RoundQ C 105 D K (I_rs4 l m a) (fun t => t ≤ 24) (fun t => 24 - t) ((fun t => 24 - t) (t)) (rest_rsum_4 D K Φ)) Ex.normal (St.mk [((2 : Nat), (AV.ptr (2 : Nat) [])), ((3 : Nat), (AV.sl (3 : Nat) [] (0 : Nat) (padLen l) (padLen l) false (1 : Nat))), ((4 : Nat), (AV.ptr (4 : Nat) [])), ((5 : Nat), (AV.ptr (5 : Nat) [])), ((6 : Nat), (AV.v (Value.int IntKind.i64 ((((136 : Nat) * m) : Nat) : Int)))), ((10 : Nat), (AV.v (Value.int IntKind.i64 (((t + 1) : Nat) : Int)))), ((79 : Nat), (AV.v (Value.bool true)))] [((2 : Nat), (Blk.c (AV.arr (32 : Nat) (1 : Nat) (fun (x : Nat) => (AV.v (Value.int IntKind.u8 (0 : Int))))))), ((3 : Nat), (Blk.c (AV.arr (padLen l) (1 : Nat) (fun (i : Nat) => (AV.v (Value.int IntKind.u8 (((padN l i) : Nat) : Int))))))), ((4 : Nat), (Blk.c (AV.arr (5 : Nat) (5 : Nat) (fun (x : Nat) => (AV.arr (5 : Nat) (1 : Nat) (fun (y : Nat) => (AV.v (Value.int IntKind.u64 (((Sp.roundN (flatN (fun (x1 : Nat) => (AV.arr (5 : Nat) (1 : Nat) (fun (y1 : Nat) => (AV.v (Value.int IntKind.u64 (((Sp.permN a t (x1 + ((5 : Nat) * y1))) : Nat) : Int))))))) (Sp.wordsN t) (x + ((5 : Nat) * y))) : Nat) : Int))))))))), ((5 : Nat), (Blk.c (AV.arr (24 : Nat) (1 : Nat) (fun (i : Nat) => (AV.v (Value.int IntKind.u64 (((Sp.wordsN i) : Nat) : Int)))))))] [(2 : Nat), (3 : Nat), (4 : Nat), (5 : Nat)])))))))) ∧
 ((decide (((t : Nat) : Int) < (24 : Int))) = false → 
 ((I64 (((((136 : Nat) * m) + 136) : Nat) : Int)) ∧
 (Φ Ex.normal (St.mk [((2 : Nat), (AV.ptr (2 : Nat) [])), ((3 : Nat), (AV.sl (3 : Nat) [] (0 : Nat) (padLen l) (padLen l) false (1 : Nat))), ((4 : Nat), (AV.ptr (4 : Nat) [])), ((5 : Nat), (AV.ptr (5 : Nat) [])), ((6 : Nat), (AV.v (Value.int IntKind.i64 (((((136 : Nat) * m) + 136) : Nat) : Int)))), ((10 : Nat), (AV.v (Value.int IntKind.i64 ((t : Nat) : Int)))), ((79 : Nat), (AV.v (Value.bool false)))] [((2 : Nat), (Blk.c (AV.arr (32 : Nat) (1 : Nat) (fun (x : Nat) => (AV.v (Value.int IntKind.u8 (0 : Int))))))), ((3 : Nat), (Blk.c (AV.arr (padLen l) (1 : Nat) (fun (i : Nat) => (AV.v (Value.int IntKind.u8 (((padN l i) : Nat) : Int))))))), ((4 : Nat), (Blk.c (AV.arr (5 : Nat) (5 : Nat) (fun (x : Nat) => (AV.arr (5 : Nat) (1 : Nat) (fun (y : Nat) => (AV.v (Value.int IntKind.u64 (((Sp.permN a t (x + ((5 : Nat) * y))) : Nat) : Int))))))))), ((5 : Nat), (Blk.c (AV.arr (24 : Nat) (1 : Nat) (fun (i : Nat) => (AV.v (Value.int IntKind.u64 (((Sp.wordsN i) : Nat) : Int)))))))] [(2 : Nat), (3 : Nat), (4 : Nat), (5 : Nat)]))))) := by kernel_rfl
theorem rsum_C24 (a : Nat → Nat) {D : Dom} (K : Nat) (Φ : Ex → St → Prop) :
 (Holds C P 105 D K Φ (cutAt C w_rsum b_rsum [1, 1, 1, 1, 1, 1, 1, 1, 0] (S_rs24 a) (after C w_rsum b_rsum [1, 1, 1, 1, 1, 1, 1, 1, 0] [] lf))) =
 ((((32 : Nat) = (32 : Nat)) ∧ (((1 : Nat) = (1 : Nat)) ∧ (∀ (i : Nat), ((i < (32 : Nat)) → ((true = true) ∧ (Bool.true = true)))))) ∧
 (LoopOK C P (105 : Nat) D K (bodyAt b_rsum [1, 1, 1, 1, 1, 1, 1, 1, 1, 0, 1, 0]) (St.mk [((2 : Nat), (AV.ptr (2 : Nat) [])), ((4 : Nat), (AV.ptr (4 : Nat) [])), ((11 : Nat), (AV.ptr (11 : Nat) [])), ((12 : Nat), (AV.v (Value.int IntKind.i64 (0 : Int))))] [((2 : Nat), (Blk.c (AV.arr (32 : Nat) (1 : Nat) (fun (x : Nat) => (AV.v (Value.int IntKind.u8 (0 : Int))))))), ((4 : Nat), (Blk.c (AV.arr (5 : Nat) (5 : Nat) (fun (x : Nat) => (AV.arr (5 : Nat) (1 : Nat) (fun (y : Nat) => (AV.v (Value.int IntKind.u64 (((a (x + ((5 : Nat) * y))) : Nat) : Int))))))))), ((11 : Nat), (Blk.c (AV.arr (32 : Nat) (1 : Nat) (fun (x : Nat) => (AV.v (Value.int IntKind.u8 (0 : Int)))))))] [(11 : Nat), (2 : Nat), (4 : Nat)]) (fun (e : Ex) (S' : St) => Holds C P (105 : Nat) D K Φ (after C w_rsum b_rsum [1, 1, 1, 1, 1, 1, 1, 1, 1, 0, 1, 0] [] lf e S')))) := by kernel_rfl
noncomputable abbrev bd_rsum_5 : Code := bodyAt (b_rsum) [1, 1, 1, 1, 1, 1, 1, 1, 1, 0, 1, 0]
theorem ok_rsum_5 : codeOK bd_rsum_5 = true := by kernel_rfl
noncomputable abbrev rest_rsum_5 (D : Dom) (K : Nat) (Φ : Ex → St → Prop) : Ex → St → Prop := fun e S' => Holds C P 105 D K Φ (after C w_rsum (b_rsum) [1, 1, 1, 1, 1, 1, 1, 1, 1, 0, 1, 0] [] lf e S')
theorem rsum_L5 (a : Nat → Nat) (i : Nat) {D : Dom} (K : Nat) (Φ : Ex → St → Prop) :
 (Holds C P 105 D K (RoundQ C 105 D K (I_rs5 a) (fun i => i ≤ 32) (fun i => 32 - i) ((fun i => 32 - i) (i)) (rest_rsum_5 D K Φ)) (vc C w_rsum bd_rsum_5 [] ((I_rs5 a) (i)) lf)) =
 (((decide (((i : Nat) : Int) < (32 : Int))) = true → 
 (((8 : Int) ≠ (0 : Int)) ∧
 ((I64 (((i / 8) : Nat) : Int)) ∧
 ((((0 : Int) ≤ (((i / 8) : Nat) : Int)) ∧ ((((i / 8) : Nat) : Int) < (5 : Int))) ∧
 ((((0 : Int) ≤ (0 : Int)) ∧ ((0 : Int) < (5 : Int))) ∧
 (((8 : Int) ≠ (0 : Int)) ∧
 ((I64 (((8 * (i % 8)) : Nat) : Int)) ∧
 (((0 : Int) ≤ (((8 * (i % 8)) : Nat) : Int)) ∧
 ((((0 : Int) ≤ ((i : Nat) : Int)) ∧ (((i : Nat) : Int) < (32 : Int))) ∧
 ((I64 (((i + 1) : Nat) : Int)) ∧
 ((RoundQ C 105 D K (I_rs5 a) (fun i => i ≤ 32) (fun i => 32 - i) ((fun i => 32 - i) (i)) (rest_rsum_5 D K Φ)) Ex.normal (St.mk [((2 : Nat), (AV.ptr (2 : Nat) [])), ((4 : Nat), (AV.ptr (4 : Nat) [])), ((11 : Nat), (AV.ptr (11 : Nat) [])), ((12 : Nat), (AV.v (Value.int IntKind.i64 (((i + 1) : Nat) : Int)))), ((89 : Nat), (AV.v (Value.bool true)))] [((2 : Nat), (Blk.c (AV.arr (32 : Nat) (1 : Nat) (fun (x : Nat) => (AV.v (Value.int IntKind.u8 (0 : Int))))))), ((4 : Nat), (Blk.c (AV.arr (5 : Nat) (5 : Nat) (fun (x : Nat) => (AV.arr (5 : Nat) (1 : Nat) (fun (y : Nat) => (AV.v (Value.int IntKind.u64 (((a (x + ((5 : Nat) * y))) : Nat) : Int))))))))), ((11 : Nat), (Blk.c (AV.arr (32 : Nat) (1 : Nat) (fun (j : Nat) => (if (j = i) then (AV.v (Value.int IntKind.u8 (IntKind.wrap IntKind.u8 (bShr IntKind.u64 (((a (i / 8)) : Nat) : Int) (((8 * (i % 8)) : Nat) : Int))))) else (AV.v (Value.int IntKind.u8 (((if (j < i) then (outN a j) else (0 : Nat)) : Nat) : Int))))))))] [(2 : Nat), (4 : Nat), (11 : Nat)])))))))))))) ∧
 ((decide (((i : Nat) : Int) < (32 : Int))) = false → 
 ((((32 : Nat) = (32 : Nat)) ∧ (((1 : Nat) = (1 : Nat)) ∧ (∀ (i1 : Nat), ((i1 < (32 : Nat)) → ((true = true) ∧ (Bool.true = true)))))) ∧
 (Φ Ex.ret (St.mk [((2 : Nat), (AV.ptr (2 : Nat) [])), ((4 : Nat), (AV.ptr (4 : Nat) [])), ((11 : Nat), (AV.ptr (11 : Nat) [])), ((12 : Nat), (AV.v (Value.int IntKind.i64 ((i : Nat) : Int)))), ((89 : Nat), (AV.v (Value.bool false)))] [((2 : Nat), (Blk.c (AV.arr (32 : Nat) (1 : Nat) (fun (i1 : Nat) => (AV.v (Value.int IntKind.u8 (((if (i1 < i) then (outN a i1) else (0 : Nat)) : Nat) : Int))))))), ((4 : Nat), (Blk.c (AV.arr (5 : Nat) (5 : Nat) (fun (x : Nat) => (AV.arr (5 : Nat) (1 : Nat) (fun (y : Nat) => (AV.v (Value.int IntKind.u64 (((a (x + ((5 : Nat) * y))) : Nat) : Int))))))))), ((11 : Nat), (Blk.c (AV.arr (32 : Nat) (1 : Nat) (fun (i1 : Nat) => (AV.v (Value.int IntKind.u8 (((if (i1 < i) then (outN a i1) else (0 : Nat)) : Nat) : Int)))))))] [(2 : Nat), (4 : Nat), (11 : Nat)]))))) := by kernel_rfl
theorem flatN_ref (f : Nat → Nat) : flatN (fun x1 => AV.arr 5 1 (fun y1 => u64 (f (x1 + 5 * y1)))) = f := by
 funext p
 exact flat_ref f p
theorem tail0_hi {l : List Nat} {i : Nat} (h : l.length ≤ i) : tail0 l i ≤ 6 := by
 unfold tail0
 rw [if_neg (by omega)]
 by_cases e : i = l.length
 ·rw [if_pos e]; exact Nat.le_refl _
 ·rw [if_neg e]; exact Nat.zero_le _
theorem tail0_lt {l : List Nat} (h : Small l) (i : Nat) : tail0 l i < 256 := by
 unfold tail0
 by_cases e : i < l.length
 ·rw [if_pos e]; exact getD_small h i
 ·rw [if_neg e]
  by_cases e : i = l.length
  ·rw [if_pos e]; decide
  ·rw [if_neg e]; decide
theorem padN_lt {l : List Nat} (h : Small l) (i : Nat) : padN l i < 256 := by
 unfold padN
 by_cases e : i = 136 * (l.length / 136) + 135
 ·rw [if_pos e]
  have := tail0_hi (l := l) (i := i) (by omega)
  omega
 ·rw [if_neg e]
  have := tail0_lt h i
  omega
theorem stR_lt (l : List Nat) : ∀ m i, i < 25 → stR l m i < 2 ^ 64
 | 0, _, _ => by show 0 < _; decide
 | m + 1, i, hi => mixN_lt (stR_lt l m) i hi
theorem stR_stN (l : List Nat) : ∀ m, m ≤ l.length / 136 → ∀ i, i < 25 → stR l m i = stN l m i
 | 0, _, _, _ => rfl
 | m + 1, hm, i, hi => by
  refine mixN_congr (stR_stN l m (by omega)) (fun j hj => ?_) i hi
  show padN l (136 * m + j) = _
  unfold padN tail0
  rw [if_pos (by omega), if_neg (by omega)]
  rfl
theorem stR_last (l : List Nat) {i : Nat} (hi : i < 25) : stR l (l.length / 136 + 1) i = mixN (stN l (l.length / 136)) (lastBlk l) 136 i := by
 refine mixN_congr (stR_stN l _ (Nat.le_refl _)) (fun j hj => ?_) i hi
 show padN l (136 * (l.length / 136) + j) = lastBlk l j
 unfold padN tail0 lastBlk
 have e1 : (136 * (l.length / 136) + j < l.length) ↔ j < l.length % 136 := by omega
 have e2 : (136 * (l.length / 136) + j = l.length) ↔ j = l.length % 136 := by omega
 have e3 : (136 * (l.length / 136) + j = 136 * (l.length / 136) + 135) ↔ j = 135 := by omega
 simp only [e1, e2, e3]
theorem absR_lt {a b : Nat → Nat} {o i : Nat} (ha : ∀ p, p < 25 → a p < 2 ^ 64) (hb : ∀ i, b i < 256) {p : Nat} (hp : p < 25) : absR a b o i p < 2 ^ 64 := by
 unfold absR
 by_cases e : p < i
 ·rw [if_pos e]; exact Nat.xor_lt_two_pow (ha p hp) (wN_lt hb (Nat.le_refl _))
 ·rw [if_neg e]; exact ha p hp
theorem rsum_fun (ex : Bool) (l : List Nat) (hs : Small l) (hn : l.length < 2 ^ 46) : Fun C P F_rsum [.dat l.length ex 1 (rowL l)] [] (sumAV l) [] := by
 have hpl : padLen l = 136 * (l.length / 136 + 1) := rfl
 refine in_rsum (W := w_rsum) rfl 0 (by simp) rfl (fun id h => absurd rfl h) fun D => ?_
 refine of_eq (rsum_A ex l 0 _) ⟨(by first | omega | decide | (unfold I64; omega)), (by first | omega | decide | (unfold I64; omega)), ?_⟩
 refine loop_inv (W := w_rsum) ctx mixed ok_rsum_0 (I_rs0 l) (fun n => l.length < n ∧ n ≤ padLen l) (fun n => padLen l - n) (l.length + 1) (by omega) ?_ fun n hq => ?_
 ·refine ent_of [(2, 2), (18, 3)] rfl (tm_cons rfl (sm_ptr rfl) (tm_cons rfl (sm_sl rfl (by omega) (by omega) (by omega) (by simp)) tm_nil)) (hp_cons rfl rfl (sm_same rfl) (hp_cons rfl rfl (sm_arr' (by omega) fun j hj => ?_) hp_nil))
  unfold cat tail0
  by_cases e : j < l.length
  ·rw [if_pos (by omega), if_pos e]; dsimp only; rw [Nat.zero_add]
  ·have e2 : j = l.length := by omega
   subst e2
   rw [if_neg (by omega), if_neg (by omega), if_pos rfl, Nat.zero_add, Nat.sub_self]
   rfl
 obtain ⟨hq1, hq2⟩ := hq
 refine of_eq (rsum_L0 l n 0 _) ⟨(by first | omega | decide | (unfold I64; omega)), fun h => ?_, fun h => ?_⟩
 ·have h' : n % 136 ≠ 0 := fun e => by rw [e] at h; simp at h
  refine ⟨(by first | omega | decide | (unfold I64; omega)), round_end (n + 1) (by omega) (ent_of [(2, 2), (25, 3)] rfl (tm_cons rfl (sm_ptr rfl) (tm_cons rfl (sm_sl rfl rfl (Nat.le_refl _) (Nat.le_refl _) (by simp)) tm_nil)) (hp_cons rfl rfl (sm_same rfl) (hp_cons rfl rfl (sm_arr' rfl fun j hj => ?_) hp_nil))) (by dsimp only; omega)⟩
  unfold cat
  by_cases e : j < n
  ·rw [if_pos e]; dsimp only; rw [Nat.zero_add]
  ·have e2 : j = n := by omega
   subst e2
   rw [if_neg e, Nat.sub_self]
   unfold tail0
   rw [if_neg (by omega), if_neg (by omega)]
   rfl
 have hn0 : n = padLen l := by
  have h' : n % 136 = 0 := by
   simp only [bne_eq_false_iff_eq] at h
   omega
  omega
 subst hn0
 refine cut_ok (S2 := S_rs5 l) (ent_of [(2, 2), (3, 3)] rfl (tm_cons rfl (sm_ptr rfl) (tm_cons rfl (sm_sl rfl rfl (Nat.le_refl _) (Nat.le_refl _) (by simp)) tm_nil)) (hp_cons rfl rfl (sm_same rfl) (hp_cons rfl rfl (sm_same rfl) hp_nil))) ?_
 clear h hq1 hq2
 have hlast : (((padLen l : Nat) : Int) - 1).toNat = 136 * (l.length / 136) + 135 := by omega
 refine of_eq (rsum_C5 l 0 _) ⟨(by first | omega | decide | (unfold I64; omega)), (by first | omega | decide | (unfold I64; omega)), (by first | omega | decide | (unfold I64; omega)), ⟨rfl, rfl, fun _ _ => ⟨rfl, rfl, fun _ _ => ⟨rfl, rfl⟩⟩⟩, rwords_fun, fun _ _ => trivial, ⟨rfl, rfl, fun _ _ => ⟨rfl, rfl⟩⟩, ?_⟩
 refine loop_inv (W := w_rsum) ctx mixed ok_rsum_1 (I_rs1 l) (fun m => m ≤ l.length / 136 + 1) (fun m => l.length / 136 + 1 - m) 0 (by omega) ?_ fun m hm => ?_
 ·refine ent_of [(2, 2), (3, 3), (4, 4), (5, 5)] rfl (tm_cons rfl (sm_ptr rfl) (tm_cons rfl (sm_sl rfl rfl (Nat.le_refl _) (Nat.le_refl _) (by simp)) (tm_cons rfl (sm_ptr rfl) (tm_cons rfl (sm_ptr rfl) (tm_cons rfl (sm_same rfl) tm_nil))))) (hp_cons rfl rfl (sm_same rfl) (hp_cons rfl rfl (sm_arr fun j hj => ?_) (hp_cons rfl rfl (sm_same rfl) (hp_cons rfl rfl (sm_same rfl) hp_nil))))
  rw [Nat.zero_add, hlast]
  unfold padN
  by_cases e : j = 136 * (l.length / 136) + 135
  ·rw [if_pos e, if_pos e, e, wrap_u8]
   have := tail0_hi (l := l) (i := 136 * (l.length / 136) + 135) (by omega)
   rw [Nat.mod_eq_of_lt (by omega)]
  ·rw [if_neg e, if_neg e]; rfl
 have hbs := padN_lt hs
 refine of_eq (rsum_L1 l m 0 _) ⟨fun h => ?_, fun h => ?_⟩
 ·simp only [decide_eq_true_eq] at h
  have hm' : m ≤ l.length / 136 := by omega
  refine loop_inv (W := w_rsum) ctx mixed ok_rsum_2 (I_rs2 l m) (fun i => i ≤ 17) (fun i => 17 - i) 0 (by decide) ?_ fun i hi => ?_
  ·exact ent_of [(2, 2), (3, 3), (4, 4), (5, 5)] rfl (tm_cons rfl (sm_ptr rfl) (tm_cons rfl (sm_sl rfl rfl (Nat.le_refl _) (Nat.le_refl _) (by simp)) (tm_cons rfl (sm_ptr rfl) (tm_cons rfl (sm_ptr rfl) (tm_cons rfl (sm_same rfl) (tm_cons rfl (sm_same rfl) tm_nil)))))) (hp_cons rfl rfl (sm_same rfl) (hp_cons rfl rfl (sm_same rfl) (hp_cons rfl rfl (sm_ref fun x y _ _ => (if_neg (Nat.not_lt_zero _)).symm) (hp_cons rfl rfl (sm_same rfl) hp_nil))))
  refine of_eq (rsum_L2 l m i 0 _) ⟨fun h2 => ?_, fun h2 => ?_⟩
  ·simp only [decide_eq_true_eq] at h2
   refine loop_inv (W := w_rsum) ctx mixed ok_rsum_3 (I_rs3 l m i) (fun n => n ≤ 8) (fun n => 8 - n) 0 (by decide) ?_ fun n hn8 => ?_
   ·exact ent_of [(2, 2), (3, 3), (4, 4), (5, 5)] rfl (tm_cons rfl (sm_ptr rfl) (tm_cons rfl (sm_sl rfl rfl (Nat.le_refl _) (Nat.le_refl _) (by simp)) (tm_cons rfl (sm_ptr rfl) (tm_cons rfl (sm_ptr rfl) (tm_cons rfl (sm_same rfl) (tm_cons rfl (sm_same rfl) (tm_cons rfl (sm_same rfl) (tm_cons rfl (sm_int (by omega)) tm_nil)))))))) (hp_cons rfl rfl (sm_same rfl) (hp_cons rfl rfl (sm_same rfl) (hp_cons rfl rfl (sm_same rfl) (hp_cons rfl rfl (sm_same rfl) hp_nil))))
   refine of_eq (rsum_L3 l m i n 0 _) ⟨fun h3 => ?_, fun h3 => ?_⟩
   ·simp only [ge_iff_le, decide_eq_true_eq] at h3
    have hix : (((136 * m + 8 * i : Nat) : Int) + ((7 : Int) - ((n : Nat) : Int))).toNat = 136 * m + 8 * i + (7 - n) := by omega
    have hb1 := hbs (136 * m + 8 * i + (7 - n))
    have hw := wN_lt (b := padN l) (base := 136 * m + 8 * i) hbs (n := n) (by omega)
    have hsh : bShl IntKind.u64 ((wN (padN l) (136 * m + 8 * i) n : Nat) : Int) 8 = _ := shl64 _ 8
    rw [hix, Nat.zero_add, hsh, wrap_u64, Nat.mod_eq_of_lt (show padN l (136 * m + 8 * i + (7 - n)) < 2 ^ 64 by omega), or64 (Nat.mod_lt _ (by decide)) (by omega)]
    refine ⟨(by first | omega | decide | (unfold I64; omega)), (by first | omega | decide | (unfold I64; omega)), (by first | omega | decide | (unfold I64; omega)), (by first | omega | decide | (unfold I64; omega)), (by first | omega | decide | (unfold I64; omega)), (by first | omega | decide | (unfold I64; omega)), round_end (n + 1) (by omega) (ent_of [(2, 2), (3, 3), (4, 4), (5, 5)] rfl (tm_cons rfl (sm_ptr rfl) (tm_cons rfl (sm_sl rfl rfl (Nat.le_refl _) (Nat.le_refl _) (by simp)) (tm_cons rfl (sm_ptr rfl) (tm_cons rfl (sm_ptr rfl) (tm_cons rfl (sm_same rfl) (tm_cons rfl (sm_same rfl) (tm_cons rfl (sm_same rfl) (tm_cons rfl (sm_int (by omega)) tm_nil)))))))) (hp_cons rfl rfl (sm_same rfl) (hp_cons rfl rfl (sm_same rfl) (hp_cons rfl rfl (sm_same rfl) (hp_cons rfl rfl (sm_same rfl) hp_nil))))) (by dsimp only; omega)⟩
   ·simp only [ge_iff_le, decide_eq_false_iff_not] at h3
    obtain rfl : n = 8 := by omega
    have hst := stR_lt l m
    have hii : i % 5 + 5 * (i / 5) = i := Nat.mod_add_div i 5
    rw [xor64 (absR_lt hst hbs (by omega)) (wN_lt hbs (Nat.le_refl _))]
    refine ⟨(by first | omega | decide | (unfold I64; omega)), (by first | omega | decide | (unfold I64; omega)), (by first | omega | decide | (unfold I64; omega)), (by first | omega | decide | (unfold I64; omega)), (by first | omega | decide | (unfold I64; omega)), (by first | omega | decide | (unfold I64; omega)), (by first | omega | decide | (unfold I64; omega)), (by first | omega | decide | (unfold I64; omega)), (by first | omega | decide | (unfold I64; omega)), (by first | omega | decide | (unfold I64; omega)), (by first | omega | decide | (unfold I64; omega)), round_end (i + 1) (by omega) (ent_of [(2, 2), (3, 3), (4, 4), (5, 5)] rfl (tm_cons rfl (sm_ptr rfl) (tm_cons rfl (sm_sl rfl rfl (Nat.le_refl _) (Nat.le_refl _) (by simp)) (tm_cons rfl (sm_ptr rfl) (tm_cons rfl (sm_ptr rfl) (tm_cons rfl (sm_same rfl) (tm_cons rfl (sm_same rfl) tm_nil)))))) (hp_cons rfl rfl (sm_same rfl) (hp_cons rfl rfl (sm_same rfl) (hp_cons rfl rfl (sm_upd2 ?_ fun x z hx hz hne => ?_) (hp_cons rfl rfl (sm_same rfl) hp_nil))))) (by dsimp only; omega)⟩
    ·unfold absR
     rw [hii, if_neg (by omega), if_pos (by omega)]
    ·unfold absR
     by_cases e : x + 5 * z < i
     ·rw [if_pos e, if_pos (by omega)]
     ·rw [if_neg e, if_neg (by omega)]
  simp only [decide_eq_false_iff_not] at h2
  obtain rfl : i = 17 := by omega
  refine loop_inv (W := w_rsum) ctx mixed ok_rsum_4 (I_rs4 l m (absR (stR l m) (padN l) (136 * m) 17)) (fun t => t ≤ 24) (fun t => 24 - t) 0 (by decide) ?_ fun t ht => ?_
  ·exact ent_of [(2, 2), (3, 3), (4, 4), (5, 5)] rfl (tm_cons rfl (sm_ptr rfl) (tm_cons rfl (sm_sl rfl rfl (Nat.le_refl _) (Nat.le_refl _) (by simp)) (tm_cons rfl (sm_ptr rfl) (tm_cons rfl (sm_ptr rfl) (tm_cons rfl (sm_same rfl) (tm_cons rfl (sm_same rfl) tm_nil)))))) (hp_cons rfl rfl (sm_same rfl) (hp_cons rfl rfl (sm_same rfl) (hp_cons rfl rfl (sm_same rfl) (hp_cons rfl rfl (sm_same rfl) hp_nil))))
  have hpm : ∀ t p, p < 25 → permN (absR (stR l m) (padN l) (136 * m) 17) t p < 2 ^ 64 := permN_lt fun p hp => absR_lt (stR_lt l m) hbs hp
  refine of_eq (rsum_L4 l m (absR (stR l m) (padN l) (136 * m) 17) t 0 _) ⟨fun h3 => ?_, fun h3 => ?_⟩
  ·simp only [decide_eq_true_eq] at h3
   rw [flatN_ref]
   exact ⟨(by first | omega | decide | (unfold I64; omega)), rround_fun _ _ (hpm t) (wordsN_lt t), fun _ _ _ _ => trivial, ⟨rfl, rfl, fun _ _ => ⟨rfl, rfl, fun _ _ => ⟨rfl, rfl⟩⟩⟩, (by first | omega | decide | (unfold I64; omega)), round_end (t + 1) (by omega) (ent_of [(2, 2), (3, 3), (4, 4), (5, 5)] rfl (tm_cons rfl (sm_ptr rfl) (tm_cons rfl (sm_sl rfl rfl (Nat.le_refl _) (Nat.le_refl _) (by simp)) (tm_cons rfl (sm_ptr rfl) (tm_cons rfl (sm_ptr rfl) (tm_cons rfl (sm_same rfl) (tm_cons rfl (sm_same rfl) tm_nil)))))) (hp_cons rfl rfl (sm_same rfl) (hp_cons rfl rfl (sm_same rfl) (hp_cons rfl rfl (sm_same rfl) (hp_cons rfl rfl (sm_same rfl) hp_nil))))) (by dsimp only; omega)⟩
  ·simp only [decide_eq_false_iff_not] at h3
   obtain rfl : t = 24 := by omega
   refine ⟨(by first | omega | decide | (unfold I64; omega)), round_end (m + 1) (by omega) (ent_of [(2, 2), (3, 3), (4, 4), (5, 5)] rfl (tm_cons rfl (sm_ptr rfl) (tm_cons rfl (sm_sl rfl rfl (Nat.le_refl _) (Nat.le_refl _) (by simp)) (tm_cons rfl (sm_ptr rfl) (tm_cons rfl (sm_ptr rfl) (tm_cons rfl (sm_int (by omega)) tm_nil))))) (hp_cons rfl rfl (sm_same rfl) (hp_cons rfl rfl (sm_same rfl) (hp_cons rfl rfl (sm_ref fun x z hx hz => ?_) (hp_cons rfl rfl (sm_same rfl) hp_nil))))) (by dsimp only; omega)⟩
   refine permN_congr (fun p hp => ?_) 24 _ (by omega)
   rw [absN_block hbs]
   rfl
 simp only [decide_eq_false_iff_not] at h
 obtain rfl : m = l.length / 136 + 1 := by omega
 refine cut_ok (S2 := S_rs24 (stR l (l.length / 136 + 1))) (ent_of [(2, 2), (4, 4)] rfl (tm_cons rfl (sm_ptr rfl) (tm_cons rfl (sm_ptr rfl) tm_nil)) (hp_cons rfl rfl (sm_same rfl) (hp_cons rfl rfl (sm_same rfl) hp_nil))) ?_
 have hst := stR_lt l (l.length / 136 + 1)
 refine of_eq (rsum_C24 _ 0 _) ⟨⟨rfl, rfl, fun _ _ => ⟨rfl, rfl⟩⟩, ?_⟩
 refine loop_inv (W := w_rsum) ctx mixed ok_rsum_5 (I_rs5 (stR l (l.length / 136 + 1))) (fun i => i ≤ 32) (fun i => 32 - i) 0 (by decide) ?_ fun i hi => ?_
 ·exact ent_of [(2, 2), (4, 4), (11, 11)] rfl (tm_cons rfl (sm_ptr rfl) (tm_cons rfl (sm_ptr rfl) (tm_cons rfl (sm_ptr rfl) (tm_cons rfl (sm_same rfl) tm_nil)))) (hp_cons rfl rfl (sm_same rfl) (hp_cons rfl rfl (sm_same rfl) (hp_cons rfl rfl (sm_arr fun j _ => rfl) hp_nil)))
 refine of_eq (rsum_L5 _ i 0 _) ⟨fun h2 => ?_, fun h2 => ?_⟩
 ·simp only [decide_eq_true_eq] at h2
  rw [shr64 _ _ (hst _ (by omega)), wrap_u8]
  refine ⟨(by first | omega | decide | (unfold I64; omega)), (by first | omega | decide | (unfold I64; omega)), (by first | omega | decide | (unfold I64; omega)), (by first | omega | decide | (unfold I64; omega)), (by first | omega | decide | (unfold I64; omega)), (by first | omega | decide | (unfold I64; omega)), (by first | omega | decide | (unfold I64; omega)), (by first | omega | decide | (unfold I64; omega)), (by first | omega | decide | (unfold I64; omega)), round_end (i + 1) (by omega) (ent_of [(2, 2), (4, 4), (11, 11)] rfl (tm_cons rfl (sm_ptr rfl) (tm_cons rfl (sm_ptr rfl) (tm_cons rfl (sm_ptr rfl) (tm_cons rfl (sm_same rfl) tm_nil)))) (hp_cons rfl rfl (sm_same rfl) (hp_cons rfl rfl (sm_same rfl) (hp_cons rfl rfl (sm_arr fun j _ => ?_) hp_nil)))) (by dsimp only; omega)⟩
  show _ = u8 (if j < i + 1 then outN (stR l (l.length / 136 + 1)) j else 0)
  by_cases e : j = i
  ·rw [if_pos e, if_pos (by omega), e]; rfl
  ·rw [if_neg e]
   by_cases e2 : j < i
   ·rw [if_pos e2, if_pos (by omega)]
   ·rw [if_neg e2, if_neg (by omega)]
 simp only [decide_eq_false_iff_not] at h2
 obtain rfl : i = 32 := by omega
 refine ⟨⟨rfl, rfl, fun _ _ => ⟨rfl, rfl⟩⟩, post_cell rfl rfl (sm_arr fun k hk => ?_) rfl⟩
 rw [if_pos hk]
 unfold outN sumN
 rw [stR_last l (by omega)]
end Go.Bu.W
namespace Go.Bu.W
open Sp
theorem rsum_call {n e : Nat} {ex : Bool} {f : Nat → AV} (hb : B8 n f) (he : n = 0 ∨ e = 1) (hn : n < 2 ^ 46) : Fun C P F_rsum [.dat n ex e f] [] (sumAV (bytesL n f)) [] := by
 have h := rsum_fun ex (bytesL n f) (small_bytesL hb) (by rw [bytesL_len]; exact hn)
 refine h.sim ⟨.inr ⟨(bytesL_len n f).symm, id, he, fun i hi => .inl (row_bytesL hb i hi)⟩, trivial⟩ trivial
end Go.Bu.W

