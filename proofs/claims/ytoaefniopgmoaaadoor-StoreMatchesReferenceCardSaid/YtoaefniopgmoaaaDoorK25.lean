/- The fixed examples. -/
import Derived.Test.YtoaefniopgmoaaaDoorK24
import Derived.Test.YtoaefniopgmoaaaDoorK19
import Derived.Test.YtoaefniopgmoaaaDoorK12
import Derived.Test.YtoaefniopgmoaaaDoorK10
namespace Go.Bu.W
open Sp
def crSWrote : List AV → Option (AV × List (Nat × Blk))
 | [.st [x, i], .st [y, j]] => some (.sb (sameD (toDk x) (toDk y) && (asI i == asI j)), [])
 | _ => none
def crU0 (g : Nat) (args : List AV) (H : List (Nat × Blk)) : Option (AV × List (Nat × Blk)) :=
 sel (Nat.beq g F_swrote) (crSWrote args) <| sel (Nat.beq g F_rslist) (some (.sb true, [])) <| sel (Nat.beq g F_rlist) (crList args) <| sel (Nat.beq g F_rbad) (crBad args) <| sel (Nat.beq g F_rsame) (crSame args) <| sel (Nat.beq g F_rscells) (crSCells args) <| crT8 g args H
def crU (g : Nat) (args : List AV) (H : List (Nat × Blk)) : Option (AV × List (Nat × Blk)) := sel (Nat.beq g F_sanity) (some (.sb true, [])) <| crU0 g args H
def wayN1 (keep : List Nat) (nt : Nat) (cuts : List Nat) : Way := ⟨crU0, fun _ => false, keep, [7, 60], nt, cuts, []⟩
def wayN2 (keep : List Nat) (nt : Nat) (cuts : List Nat) : Way := ⟨crU, fun _ => false, keep, [], nt, cuts, []⟩
def w_sanity : Way := wayN1 [0, 1, 2, 3, 4, 5, 18, 36, 56] 121 [2,5,9,11]
abbrev woA (d : Dk) (e : Int) : AV := .st [dkA false false d, .i e]
def S_sy2 (a : Dk) (e : Int) : St := { tm := [(0, .v (.bool false)), (1, .ptr 1 [])], hp := [(1, .c (woA a e))], seen := [1] }
def S_sy5 (a s : Dk) (e : Int) : St := { tm := [(1, .ptr 1 []), (2, .ptr 2 [])], hp := [(1, .c (woA a e)), (2, .c (dkA false false s))], seen := [1, 2] }
def S_sy9 (a s r c : Dk) (e x : Int) : St := { tm := [(1, .ptr 1 []), (2, .ptr 2 []), (3, .ptr 3 []), (4, .ptr 4 [])], hp := [(1, .c (woA a e)), (2, .c (dkA false false s)), (3, .c (woA r x)), (4, .c (dkA false false c))], seen := [1, 2, 3, 4] }
theorem sanity_A  {D : Dom} (K : Nat) (Φ : Ex → St → Prop) :
 (Holds C P 121 D K Φ (vc C w_sanity b_sanity [] (start [] []) lf)) =
 ((0 < 1) ∧
 (Fun C P 12 [(AV.st [(AV.dat 0 true 0 (fun (x : Nat) => (AV.v (Value.tuple #[])))), (AV.dat 0 true 0 (fun (x : Nat) => (AV.v (Value.tuple #[]))))]), (AV.i (5 : Int)), (AV.i (0 : Int)), (AV.dat 1 false 1 (fun (i : Nat) => (AV.v (Value.int IntKind.u8 (nthD ((97 : Int) :: []) (0 + i) (0 : Int))))))] [] (AV.st [(AV.st [(AV.dat 0 false 35 (fun (i : Nat) => (clA (clAt ([] : List Cl) i)))), (AV.dat 1 false 36 (fun (i : Nat) => (AV.st [(AV.sb (Jb.dr (jbAt [(putJ (5 : Int) (0 : Int) (bytesL 1 (fun (i1 : Nat) => (AV.v (Value.int IntKind.u8 (nthD ((97 : Int) :: []) (0 + i1) (0 : Int)))))))] i))), (AV.st [(AV.i (Cl.i (Jb.c (jbAt [(putJ (5 : Int) (0 : Int) (bytesL 1 (fun (i1 : Nat) => (AV.v (Value.int IntKind.u8 (nthD ((97 : Int) :: []) (0 + i1) (0 : Int)))))))] i)))), (AV.i (Cl.s (Jb.c (jbAt [(putJ (5 : Int) (0 : Int) (bytesL 1 (fun (i1 : Nat) => (AV.v (Value.int IntKind.u8 (nthD ((97 : Int) :: []) (0 + i1) (0 : Int)))))))] i)))), (AV.dat (List.length (Cl.b (Jb.c (jbAt [(putJ (5 : Int) (0 : Int) (bytesL 1 (fun (i1 : Nat) => (AV.v (Value.int IntKind.u8 (nthD ((97 : Int) :: []) (0 + i1) (0 : Int)))))))] i)))) false 1 (rowL (Cl.b (Jb.c (jbAt [(putJ (5 : Int) (0 : Int) (bytesL 1 (fun (i1 : Nat) => (AV.v (Value.int IntKind.u8 (nthD ((97 : Int) :: []) (0 + i1) (0 : Int)))))))] i))))), (hA (Cl.h (Jb.c (jbAt [(putJ (5 : Int) (0 : Int) (bytesL 1 (fun (i2 : Nat) => (AV.v (Value.int IntKind.u8 (nthD ((97 : Int) :: []) (0 + i2) (0 : Int)))))))] i))))])])))]), (AV.i (0 : Int))]) [] ∧
 (((((true = true) ∧ (true = true)) ∧ (((true = true) ∧ (true = true)) ∧ True)) ∧ (((true = true) ∧ (true = true)) ∧ True)) ∧
 (∃ (S2 : St), Ent C 121 D K (St.mk [(0, (AV.v (Value.bool false))), (1, (AV.ptr 1 []))] [(1, (Blk.c (AV.st [(AV.st [(AV.dat 0 false 35 (fun (i : Nat) => (clA (clAt ([] : List Cl) i)))), (AV.dat 1 false 36 (fun (i : Nat) => (AV.st [(AV.sb (Jb.dr (jbAt [(putJ (5 : Int) (0 : Int) (bytesL 1 (fun (i1 : Nat) => (AV.v (Value.int IntKind.u8 (nthD ((97 : Int) :: []) (0 + i1) (0 : Int)))))))] i))), (AV.st [(AV.i (Cl.i (Jb.c (jbAt [(putJ (5 : Int) (0 : Int) (bytesL 1 (fun (i1 : Nat) => (AV.v (Value.int IntKind.u8 (nthD ((97 : Int) :: []) (0 + i1) (0 : Int)))))))] i)))), (AV.i (Cl.s (Jb.c (jbAt [(putJ (5 : Int) (0 : Int) (bytesL 1 (fun (i1 : Nat) => (AV.v (Value.int IntKind.u8 (nthD ((97 : Int) :: []) (0 + i1) (0 : Int)))))))] i)))), (AV.dat (List.length (Cl.b (Jb.c (jbAt [(putJ (5 : Int) (0 : Int) (bytesL 1 (fun (i1 : Nat) => (AV.v (Value.int IntKind.u8 (nthD ((97 : Int) :: []) (0 + i1) (0 : Int)))))))] i)))) false 1 (rowL (Cl.b (Jb.c (jbAt [(putJ (5 : Int) (0 : Int) (bytesL 1 (fun (i1 : Nat) => (AV.v (Value.int IntKind.u8 (nthD ((97 : Int) :: []) (0 + i1) (0 : Int)))))))] i))))), (hA (Cl.h (Jb.c (jbAt [(putJ (5 : Int) (0 : Int) (bytesL 1 (fun (i2 : Nat) => (AV.v (Value.int IntKind.u8 (nthD ((97 : Int) :: []) (0 + i2) (0 : Int)))))))] i))))])])))]), (AV.i (0 : Int))])))] [1, 7]) S2 ∧ Holds C P 121 D K Φ (cutAt C w_sanity b_sanity [1, 1, 0, 0] S2 (after C w_sanity b_sanity [1, 1, 0, 0] [] lf)))))) := by kernel_rfl
theorem sanity_C2 (a : Dk) (e : Int) {D : Dom} (K : Nat) (Φ : Ex → St → Prop) :
 (Holds C P 121 D K Φ (cutAt C w_sanity b_sanity [1, 1, 0, 0] (S_sy2 a e) (after C w_sanity b_sanity [1, 1, 0, 0] [] lf))) =
 (((e != (0 : Int)) = true →
 (Φ Ex.ret (St.mk [(0, (AV.v (Value.bool false))), (1, (AV.ptr 1 [])), (18, (AV.v (Value.bool true)))] [(1, (Blk.c (AV.st [(dkA false false a), (AV.i e)])))] [1]))) ∧
 ((e != (0 : Int)) = false →
 (Fun C P 18 [(dkA false false a)] [] (AV.sb (vldB (toDk (dkA false false a)))) [] ∧
 (True ∧
 (((! (vldB (toDk (dkA false false a)))) = true →
 (Φ Ex.ret (St.mk [(0, (AV.v (Value.bool false))), (1, (AV.ptr 1 [])), (18, (AV.v (Value.bool true)))] [(1, (Blk.c (AV.st [(dkA false false a), (AV.i e)])))] [1]))) ∧
 ((! (vldB (toDk (dkA false false a)))) = false →
 (Fun C P 15 [(dkA false false a)] [] (AV.st [(csA false (Dk.l (syncD (toDk (dkA false false a))))), (jsA false ([] : List Jb))]) [] ∧
 ((((true = true) ∧ (true = true)) ∧ (((true = true) ∧ (true = true)) ∧ True)) ∧
 (∃ (S2 : St), Ent C 121 D K (St.mk [(0, (AV.v (Value.bool false))), (1, (AV.ptr 1 [])), (2, (AV.ptr 2 [])), (18, (AV.v (Value.bool false)))] [(1, (Blk.c (AV.st [(dkA false false a), (AV.i e)]))), (2, (Blk.c (AV.st [(csA false (Dk.l (syncD (toDk (dkA false false a))))), (jsA false ([] : List Jb))])))] [2, 1]) S2 ∧ Holds C P 121 D K Φ (cutAt C w_sanity b_sanity [1, 1, 1, 1, 0, 0] S2 (after C w_sanity b_sanity [1, 1, 1, 1, 0, 0] [] lf))))))))))) := by kernel_rfl
theorem sanity_C5 (a s : Dk) (e : Int) {D : Dom} (K : Nat) (Φ : Ex → St → Prop) :
 (Holds C P 121 D K Φ (cutAt C w_sanity b_sanity [1, 1, 1, 1, 0, 0] (S_sy5 a s e) (after C w_sanity b_sanity [1, 1, 1, 1, 0, 0] [] lf))) =
 (Fun C P 18 [(dkA false false s)] [] (AV.sb (vldB (toDk (dkA false false s)))) [] ∧
 (True ∧
 (((! (vldB (toDk (dkA false false s)))) = true →
 (Φ Ex.ret (St.mk [(0, (AV.v (Value.bool false))), (1, (AV.ptr 1 [])), (2, (AV.ptr 2 [])), (36, (AV.v (Value.bool true)))] [(1, (Blk.c (AV.st [(dkA false false a), (AV.i e)]))), (2, (Blk.c (dkA false false s)))] [1, 2]))) ∧
 ((! (vldB (toDk (dkA false false s)))) = false →
 ((((((List.length (Dk.l s)) : Nat) : Int) != (1 : Int)) = true →
 (Φ Ex.ret (St.mk [(0, (AV.v (Value.bool false))), (1, (AV.ptr 1 [])), (2, (AV.ptr 2 [])), (36, (AV.v (Value.bool true)))] [(1, (Blk.c (AV.st [(dkA false false a), (AV.i e)]))), (2, (Blk.c (dkA false false s)))] [1, 2]))) ∧
 (((((List.length (Dk.l s)) : Nat) : Int) != (1 : Int)) = false →
 ((((((List.length (Dk.q s)) : Nat) : Int) != (0 : Int)) = true →
 (Φ Ex.ret (St.mk [(0, (AV.v (Value.bool false))), (1, (AV.ptr 1 [])), (2, (AV.ptr 2 [])), (36, (AV.v (Value.bool true)))] [(1, (Blk.c (AV.st [(dkA false false a), (AV.i e)]))), (2, (Blk.c (dkA false false s)))] [1, 2]))) ∧
 (((((List.length (Dk.q s)) : Nat) : Int) != (0 : Int)) = false →
 (Fun C P 16 [(dkA false false s), (AV.arr 2 1 (layParts (fun (x : Nat) => (AV.i (0 : Int))) [(0, (AV.i (0 : Int))), (1, (AV.i (0 : Int)))])), (AV.v (Value.int IntKind.u8 (1 : Int)))] [] (AV.st [(dkA false false (rotD (toDk (dkA false false s)) (0 : Int) (0 : Int) 1)), (AV.i (rotE (toDk (dkA false false s)) (0 : Int) (0 : Int)))]) [] ∧
 (((((true = true) ∧ (true = true)) ∧ (((true = true) ∧ (true = true)) ∧ True)) ∧ (((true = true) ∧ (true = true)) ∧ True)) ∧
 (Fun C P 17 [(dkA false false a), (AV.dat 0 true 0 (fun (x : Nat) => (AV.v (Value.tuple #[]))))] [] (AV.st [(csA false (Dk.l (crashD (toDk (dkA false false a)) ([] : List Bool)))), (jsA false ([] : List Jb))]) [] ∧
 ((((true = true) ∧ (true = true)) ∧ (((true = true) ∧ (true = true)) ∧ True)) ∧
 (∃ (S2 : St), Ent C 121 D K (St.mk [(1, (AV.ptr 1 [])), (2, (AV.ptr 2 [])), (3, (AV.ptr 3 [])), (4, (AV.ptr 4 [])), (36, (AV.v (Value.bool false)))] [(1, (Blk.c (AV.st [(dkA false false a), (AV.i e)]))), (2, (Blk.c (dkA false false s))), (3, (Blk.c (AV.st [(dkA false false (rotD (toDk (dkA false false s)) (0 : Int) (0 : Int) 1)), (AV.i (rotE (toDk (dkA false false s)) (0 : Int) (0 : Int)))]))), (4, (Blk.c (AV.st [(csA false (Dk.l (crashD (toDk (dkA false false a)) ([] : List Bool)))), (jsA false ([] : List Jb))])))] [4, 3, 1, 2]) S2 ∧ Holds C P 121 D K Φ (cutAt C w_sanity b_sanity [1, 1, 1, 1, 1, 1, 1, 0, 0] S2 (after C w_sanity b_sanity [1, 1, 1, 1, 1, 1, 1, 0, 0] [] lf))))))))))))))) := by kernel_rfl
theorem sanity_C9 (a s r c : Dk) (e x : Int) {D : Dom} (K : Nat) (Φ : Ex → St → Prop) :
 (Holds C P 121 D K Φ (cutAt C w_sanity b_sanity [1, 1, 1, 1, 1, 1, 1, 0, 0] (S_sy9 a s r c e x) (after C w_sanity b_sanity [1, 1, 1, 1, 1, 1, 1, 0, 0] [] lf))) =
 (((x != (0 : Int)) = true →
 (Φ Ex.ret (St.mk [(0, (AV.v (Value.bool false))), (1, (AV.ptr 1 [])), (2, (AV.ptr 2 [])), (3, (AV.ptr 3 [])), (4, (AV.ptr 4 [])), (56, (AV.v (Value.bool true)))] [(1, (Blk.c (AV.st [(dkA false false a), (AV.i e)]))), (2, (Blk.c (dkA false false s))), (3, (Blk.c (AV.st [(dkA false false r), (AV.i x)]))), (4, (Blk.c (dkA false false c)))] [1, 2, 3, 4]))) ∧
 ((x != (0 : Int)) = false →
 (Fun C P 18 [(dkA false false r)] [] (AV.sb (vldB (toDk (dkA false false r)))) [] ∧
 (True ∧
 (((! (vldB (toDk (dkA false false r)))) = true →
 (Φ Ex.ret (St.mk [(0, (AV.v (Value.bool false))), (1, (AV.ptr 1 [])), (2, (AV.ptr 2 [])), (3, (AV.ptr 3 [])), (4, (AV.ptr 4 [])), (56, (AV.v (Value.bool true)))] [(1, (Blk.c (AV.st [(dkA false false a), (AV.i e)]))), (2, (Blk.c (dkA false false s))), (3, (Blk.c (AV.st [(dkA false false r), (AV.i x)]))), (4, (Blk.c (dkA false false c)))] [1, 2, 3, 4]))) ∧
 ((! (vldB (toDk (dkA false false r)))) = false →
 (Fun C P 18 [(dkA false false c)] [] (AV.sb (vldB (toDk (dkA false false c)))) [] ∧
 (True ∧
 (((! (vldB (toDk (dkA false false c)))) = true →
 (Φ Ex.ret (St.mk [(0, (AV.v (Value.bool false))), (1, (AV.ptr 1 [])), (2, (AV.ptr 2 [])), (3, (AV.ptr 3 [])), (4, (AV.ptr 4 [])), (56, (AV.v (Value.bool true)))] [(1, (Blk.c (AV.st [(dkA false false a), (AV.i e)]))), (2, (Blk.c (dkA false false s))), (3, (Blk.c (AV.st [(dkA false false r), (AV.i x)]))), (4, (Blk.c (dkA false false c)))] [1, 2, 3, 4]))) ∧
 ((! (vldB (toDk (dkA false false c)))) = false →
 (∃ (S2 : St), Ent C 121 D K (St.mk [(1, (AV.ptr 1 [])), (2, (AV.ptr 2 [])), (3, (AV.ptr 3 [])), (4, (AV.ptr 4 [])), (56, (AV.v (Value.bool false)))] [(1, (Blk.c (AV.st [(dkA false false a), (AV.i e)]))), (2, (Blk.c (dkA false false s))), (3, (Blk.c (AV.st [(dkA false false r), (AV.i x)]))), (4, (Blk.c (dkA false false c)))] [1, 2, 3, 4]) S2 ∧ Holds C P 121 D K Φ (cutAt C w_sanity b_sanity [1, 1, 1, 1, 1, 1, 1, 1, 0] S2 (after C w_sanity b_sanity [1, 1, 1, 1, 1, 1, 1, 1, 0] [] lf))))))))))))) := by kernel_rfl
set_option maxRecDepth 1000000 in
theorem sanity_C11 (a s r c : Dk) (e x : Int) {D : Dom} (K : Nat) (Φ : Ex → St → Prop) :
 (Holds C P 121 D K Φ (cutAt C w_sanity b_sanity [1, 1, 1, 1, 1, 1, 1, 1, 0] (S_sy9 a s r c e x) (after C w_sanity b_sanity [1, 1, 1, 1, 1, 1, 1, 1, 0] [] lf))) =
 (Fun C P 23 [(dkA false false a), (AV.i (5 : Int)), (AV.i (0 : Int))] [] (AV.st [(AV.dat (List.length (gotB (cont (toDk (dkA false false a))) (5 : Int) (0 : Int))) false 1 (rowL (gotB (cont (toDk (dkA false false a))) (5 : Int) (0 : Int)))), (AV.i (gotE (cont (toDk (dkA false false a))) (5 : Int) (0 : Int)))]) [] ∧
 ((0 < 1) ∧
 (Fun C P 26 [(AV.st [(AV.dat (List.length (gotB (cont (toDk (dkA false false a))) (5 : Int) (0 : Int))) false 1 (rowL (gotB (cont (toDk (dkA false false a))) (5 : Int) (0 : Int)))), (AV.i (gotE (cont (toDk (dkA false false a))) (5 : Int) (0 : Int)))]), (AV.st [(AV.dat 1 false 1 (fun (i : Nat) => (AV.v (Value.int IntKind.u8 (nthD ((97 : Int) :: []) (0 + i) (0 : Int)))))), (AV.i (0 : Int))])] [] (AV.sb ((strB (bytesL (List.length (gotB (cont (toDk (dkA false false a))) (5 : Int) (0 : Int))) (rowL (gotB (cont (toDk (dkA false false a))) (5 : Int) (0 : Int)))) (bytesL 1 (fun (i : Nat) => (AV.v (Value.int IntKind.u8 (nthD ((97 : Int) :: []) (0 + i) (0 : Int))))))) && ((gotE (cont (toDk (dkA false false a))) (5 : Int) (0 : Int)) == (0 : Int)))) [] ∧
 (True ∧
 ((((strB (bytesL (List.length (gotB (cont (toDk (dkA false false a))) (5 : Int) (0 : Int))) (rowL (gotB (cont (toDk (dkA false false a))) (5 : Int) (0 : Int)))) (bytesL 1 (fun (i : Nat) => (AV.v (Value.int IntKind.u8 (nthD ((97 : Int) :: []) (0 + i) (0 : Int))))))) && ((gotE (cont (toDk (dkA false false a))) (5 : Int) (0 : Int)) == (0 : Int))) = true →
 (Fun C P 23 [(dkA false false c), (AV.i (5 : Int)), (AV.i (0 : Int))] [] (AV.st [(AV.dat (List.length (gotB (cont (toDk (dkA false false c))) (5 : Int) (0 : Int))) false 1 (rowL (gotB (cont (toDk (dkA false false c))) (5 : Int) (0 : Int)))), (AV.i (gotE (cont (toDk (dkA false false c))) (5 : Int) (0 : Int)))]) [] ∧
 ((((gotE (cont (toDk (dkA false false c))) (5 : Int) (0 : Int)) == (220 : Int)) = true →
 (Fun C P 23 [(dkA false false r), (AV.i (5 : Int)), (AV.i (0 : Int))] [] (AV.st [(AV.dat (List.length (gotB (cont (toDk (dkA false false r))) (5 : Int) (0 : Int))) false 1 (rowL (gotB (cont (toDk (dkA false false r))) (5 : Int) (0 : Int)))), (AV.i (gotE (cont (toDk (dkA false false r))) (5 : Int) (0 : Int)))]) [] ∧
 ((((gotE (cont (toDk (dkA false false r))) (5 : Int) (0 : Int)) == (221 : Int)) = true →
 (Fun C P 23 [(dkA false false s), (AV.i (5 : Int)), (AV.i (12 : Int))] [] (AV.st [(AV.dat (List.length (gotB (cont (toDk (dkA false false s))) (5 : Int) (12 : Int))) false 1 (rowL (gotB (cont (toDk (dkA false false s))) (5 : Int) (12 : Int)))), (AV.i (gotE (cont (toDk (dkA false false s))) (5 : Int) (12 : Int)))]) [] ∧
 ((((gotE (cont (toDk (dkA false false s))) (5 : Int) (12 : Int)) == (220 : Int)) = true →
 (Fun C P 30 [(dkA false false r)] [] (csA false (badL (cont (toDk (dkA false false r))))) [] ∧
 ((((((List.length (badL (cont (toDk (dkA false false r))))) : Nat) : Int) == (1 : Int)) = true →
 (Fun C P 30 [(dkA false false s)] [] (csA false (badL (cont (toDk (dkA false false s))))) [] ∧
 ((((((List.length (badL (cont (toDk (dkA false false s))))) : Nat) : Int) == (0 : Int)) = true →
 (Fun C P 12 [(dkA false false s), (AV.i (4096 : Int)), (AV.i (0 : Int)), (AV.dat 0 true 0 (fun (x1 : Nat) => (AV.v (Value.tuple #[]))))] [] (AV.st [(dkA false false (putD (toDk (dkA false false s)) (4096 : Int) (0 : Int) (bytesL 0 (fun (x1 : Nat) => (AV.v (Value.tuple #[])))))), (AV.i (1 : Int))]) [] ∧
 ((true = true →
 (Fun C P 25 [(dkA false false s)] [] (AV.dat (List.length (cont (toDk (dkA false false s)))) false 2 (fun (i : Nat) => (AV.arr 2 1 (fun (k : Nat) => (AV.i (num2 (clAt (cont (toDk (dkA false false s))) i) k)))))) [] ∧
 (Fun C P 24 [(AV.dat (List.length (cont (toDk (dkA false false s)))) false 2 (fun (i : Nat) => (AV.arr 2 1 (fun (k : Nat) => (AV.i (num2 (clAt (cont (toDk (dkA false false s))) i) k)))))), (AV.dat 1 false 2 (fun (i : Nat) => (nthD [(AV.arr 2 1 (layParts (fun (x1 : Nat) => (AV.i (0 : Int))) [(0, (AV.i (5 : Int))), (1, (AV.i (0 : Int)))]))] (0 + i) (AV.v (Value.tuple #[])))))] [] (AV.sb true) [] ∧
 (True ∧
 ((true = true →
 (Fun C P 19 [(dkA false false r)] [] (AV.sb (vldB (toDk (dkA false false r)))) [] ∧
 (True ∧
 (((vldB (toDk (dkA false false r))) = true →
 ((((0 : Int) ≤ (2 : Int)) ∧ ((2 : Int) ≤ (2 : Int))) ∧
 ((((144 : Int) ≤ (281474976710656 : Int)) ∧ ((2 : Int) ≤ (9223372036854775807 : Int))) ∧
 (Fun C P 19 [(AV.st [(AV.dat 2 false 35 (fun (i : Nat) => (AV.st [(AV.i (0 : Int)), (AV.i (0 : Int)), (AV.dat 0 true 0 (fun (x1 : Nat) => (AV.v (Value.tuple #[])))), (AV.arr 32 1 (fun (x1 : Nat) => (AV.v (Value.int IntKind.u8 (0 : Int)))))]))), (AV.dat 0 true 0 (fun (x1 : Nat) => (AV.v (Value.tuple #[]))))])] [] (AV.sb false) [] ∧
 (True ∧
 (Φ Ex.ret (St.mk [(0, (AV.sb true)), (1, (AV.ptr 1 [])), (2, (AV.ptr 2 [])), (3, (AV.ptr 3 [])), (4, (AV.ptr 4 [])), (5, (AV.sb ((gotE (cont (toDk (dkA false false s))) (5 : Int) (12 : Int)) == (220 : Int))))] [(1, (Blk.c (AV.st [(dkA false false a), (AV.i e)]))), (2, (Blk.c (dkA false false s))), (3, (Blk.c (AV.st [(dkA false false r), (AV.i x)]))), (4, (Blk.c (dkA false false c))), (60, (Blk.c (AV.arr 1 1 (fun (i : Nat) => (AV.v (Value.int IntKind.u8 (nthD ((97 : Int) :: []) i (0 : Int)))))))), (107, (Blk.c (AV.st [(AV.arr 2 1 (layParts (fun (x1 : Nat) => (AV.i (0 : Int))) [(0, (AV.i (5 : Int))), (1, (AV.i (0 : Int)))]))]))), (116, (Blk.c (AV.arr 2 35 (fun (x1 : Nat) => (AV.st [(AV.i (0 : Int)), (AV.i (0 : Int)), (AV.dat 0 true 0 (fun (x2 : Nat) => (AV.v (Value.tuple #[])))), (AV.arr 32 1 (fun (x2 : Nat) => (AV.v (Value.int IntKind.u8 (0 : Int)))))])))))] [116, 107, 60, 1, 2, 3, 4]))))))) ∧
 ((vldB (toDk (dkA false false r))) = false →
 (Φ Ex.ret (St.mk [(0, (AV.v (Value.bool false))), (1, (AV.ptr 1 [])), (2, (AV.ptr 2 [])), (3, (AV.ptr 3 [])), (4, (AV.ptr 4 [])), (5, (AV.sb ((gotE (cont (toDk (dkA false false s))) (5 : Int) (12 : Int)) == (220 : Int))))] [(1, (Blk.c (AV.st [(dkA false false a), (AV.i e)]))), (2, (Blk.c (dkA false false s))), (3, (Blk.c (AV.st [(dkA false false r), (AV.i x)]))), (4, (Blk.c (dkA false false c))), (60, (Blk.c (AV.arr 1 1 (fun (i : Nat) => (AV.v (Value.int IntKind.u8 (nthD ((97 : Int) :: []) i (0 : Int)))))))), (107, (Blk.c (AV.st [(AV.arr 2 1 (layParts (fun (x1 : Nat) => (AV.i (0 : Int))) [(0, (AV.i (5 : Int))), (1, (AV.i (0 : Int)))]))])))] [107, 60, 1, 2, 3, 4]))))))) ∧
 (true = false →
 (Φ Ex.ret (St.mk [(0, (AV.v (Value.bool false))), (1, (AV.ptr 1 [])), (2, (AV.ptr 2 [])), (3, (AV.ptr 3 [])), (4, (AV.ptr 4 [])), (5, (AV.sb ((gotE (cont (toDk (dkA false false s))) (5 : Int) (12 : Int)) == (220 : Int))))] [(1, (Blk.c (AV.st [(dkA false false a), (AV.i e)]))), (2, (Blk.c (dkA false false s))), (3, (Blk.c (AV.st [(dkA false false r), (AV.i x)]))), (4, (Blk.c (dkA false false c))), (60, (Blk.c (AV.arr 1 1 (fun (i : Nat) => (AV.v (Value.int IntKind.u8 (nthD ((97 : Int) :: []) i (0 : Int)))))))), (107, (Blk.c (AV.st [(AV.arr 2 1 (layParts (fun (x1 : Nat) => (AV.i (0 : Int))) [(0, (AV.i (5 : Int))), (1, (AV.i (0 : Int)))]))])))] [107, 60, 1, 2, 3, 4])))))))) ∧
 (true = false →
 (Φ Ex.ret (St.mk [(0, (AV.v (Value.bool false))), (1, (AV.ptr 1 [])), (2, (AV.ptr 2 [])), (3, (AV.ptr 3 [])), (4, (AV.ptr 4 [])), (5, (AV.sb ((gotE (cont (toDk (dkA false false s))) (5 : Int) (12 : Int)) == (220 : Int))))] [(1, (Blk.c (AV.st [(dkA false false a), (AV.i e)]))), (2, (Blk.c (dkA false false s))), (3, (Blk.c (AV.st [(dkA false false r), (AV.i x)]))), (4, (Blk.c (dkA false false c))), (60, (Blk.c (AV.arr 1 1 (fun (i : Nat) => (AV.v (Value.int IntKind.u8 (nthD ((97 : Int) :: []) i (0 : Int))))))))] [60, 1, 2, 3, 4])))))) ∧
 (((((List.length (badL (cont (toDk (dkA false false s))))) : Nat) : Int) == (0 : Int)) = false →
 (Φ Ex.ret (St.mk [(0, (AV.v (Value.bool false))), (1, (AV.ptr 1 [])), (2, (AV.ptr 2 [])), (3, (AV.ptr 3 [])), (4, (AV.ptr 4 [])), (5, (AV.sb ((gotE (cont (toDk (dkA false false s))) (5 : Int) (12 : Int)) == (220 : Int))))] [(1, (Blk.c (AV.st [(dkA false false a), (AV.i e)]))), (2, (Blk.c (dkA false false s))), (3, (Blk.c (AV.st [(dkA false false r), (AV.i x)]))), (4, (Blk.c (dkA false false c))), (60, (Blk.c (AV.arr 1 1 (fun (i : Nat) => (AV.v (Value.int IntKind.u8 (nthD ((97 : Int) :: []) i (0 : Int))))))))] [60, 1, 2, 3, 4])))))) ∧
 (((((List.length (badL (cont (toDk (dkA false false r))))) : Nat) : Int) == (1 : Int)) = false →
 (Φ Ex.ret (St.mk [(0, (AV.v (Value.bool false))), (1, (AV.ptr 1 [])), (2, (AV.ptr 2 [])), (3, (AV.ptr 3 [])), (4, (AV.ptr 4 [])), (5, (AV.sb ((gotE (cont (toDk (dkA false false s))) (5 : Int) (12 : Int)) == (220 : Int))))] [(1, (Blk.c (AV.st [(dkA false false a), (AV.i e)]))), (2, (Blk.c (dkA false false s))), (3, (Blk.c (AV.st [(dkA false false r), (AV.i x)]))), (4, (Blk.c (dkA false false c))), (60, (Blk.c (AV.arr 1 1 (fun (i : Nat) => (AV.v (Value.int IntKind.u8 (nthD ((97 : Int) :: []) i (0 : Int))))))))] [60, 1, 2, 3, 4])))))) ∧
 (((gotE (cont (toDk (dkA false false s))) (5 : Int) (12 : Int)) == (220 : Int)) = false →
 (Φ Ex.ret (St.mk [(0, (AV.v (Value.bool false))), (1, (AV.ptr 1 [])), (2, (AV.ptr 2 [])), (3, (AV.ptr 3 [])), (4, (AV.ptr 4 [])), (5, (AV.sb ((gotE (cont (toDk (dkA false false s))) (5 : Int) (12 : Int)) == (220 : Int))))] [(1, (Blk.c (AV.st [(dkA false false a), (AV.i e)]))), (2, (Blk.c (dkA false false s))), (3, (Blk.c (AV.st [(dkA false false r), (AV.i x)]))), (4, (Blk.c (dkA false false c))), (60, (Blk.c (AV.arr 1 1 (fun (i : Nat) => (AV.v (Value.int IntKind.u8 (nthD ((97 : Int) :: []) i (0 : Int))))))))] [60, 1, 2, 3, 4])))))) ∧
 (((gotE (cont (toDk (dkA false false r))) (5 : Int) (0 : Int)) == (221 : Int)) = false →
 (Φ Ex.ret (St.mk [(0, (AV.v (Value.bool false))), (1, (AV.ptr 1 [])), (2, (AV.ptr 2 [])), (3, (AV.ptr 3 [])), (4, (AV.ptr 4 [])), (5, (AV.v (Value.bool false)))] [(1, (Blk.c (AV.st [(dkA false false a), (AV.i e)]))), (2, (Blk.c (dkA false false s))), (3, (Blk.c (AV.st [(dkA false false r), (AV.i x)]))), (4, (Blk.c (dkA false false c))), (60, (Blk.c (AV.arr 1 1 (fun (i : Nat) => (AV.v (Value.int IntKind.u8 (nthD ((97 : Int) :: []) i (0 : Int))))))))] [60, 1, 2, 3, 4])))))) ∧
 (((gotE (cont (toDk (dkA false false c))) (5 : Int) (0 : Int)) == (220 : Int)) = false →
 (Φ Ex.ret (St.mk [(0, (AV.v (Value.bool false))), (1, (AV.ptr 1 [])), (2, (AV.ptr 2 [])), (3, (AV.ptr 3 [])), (4, (AV.ptr 4 [])), (5, (AV.v (Value.bool false)))] [(1, (Blk.c (AV.st [(dkA false false a), (AV.i e)]))), (2, (Blk.c (dkA false false s))), (3, (Blk.c (AV.st [(dkA false false r), (AV.i x)]))), (4, (Blk.c (dkA false false c))), (60, (Blk.c (AV.arr 1 1 (fun (i : Nat) => (AV.v (Value.int IntKind.u8 (nthD ((97 : Int) :: []) i (0 : Int))))))))] [60, 1, 2, 3, 4])))))) ∧
 (((strB (bytesL (List.length (gotB (cont (toDk (dkA false false a))) (5 : Int) (0 : Int))) (rowL (gotB (cont (toDk (dkA false false a))) (5 : Int) (0 : Int)))) (bytesL 1 (fun (i : Nat) => (AV.v (Value.int IntKind.u8 (nthD ((97 : Int) :: []) (0 + i) (0 : Int))))))) && ((gotE (cont (toDk (dkA false false a))) (5 : Int) (0 : Int)) == (0 : Int))) = false →
 (Φ Ex.ret (St.mk [(0, (AV.v (Value.bool false))), (1, (AV.ptr 1 [])), (2, (AV.ptr 2 [])), (3, (AV.ptr 3 [])), (4, (AV.ptr 4 [])), (5, (AV.v (Value.bool false)))] [(1, (Blk.c (AV.st [(dkA false false a), (AV.i e)]))), (2, (Blk.c (dkA false false s))), (3, (Blk.c (AV.st [(dkA false false r), (AV.i x)]))), (4, (Blk.c (dkA false false c))), (60, (Blk.c (AV.arr 1 1 (fun (i : Nat) => (AV.v (Value.int IntKind.u8 (nthD ((97 : Int) :: []) i (0 : Int))))))))] [60, 1, 2, 3, 4])))))))) := by kernel_rfl
def c0 : Cl := ⟨5, 0, [97], sumN [97]⟩
def x0 : Cl := setB c0 0 1
theorem sum_get (b : List Nat) (k : Nat) (hk : k < 32) (hb : b.length < 136) : sumN b k = (fastSum b).getD k 0 := by
 rw [← sum_fast b hb, sumL_get b hk]
set_option maxRecDepth 1000000 in
theorem x0_rot : whC x0 = false := by
 have e : x0.b = [96] := by rfl
 unfold whC
 rw [List.all_eq_false]
 refine ⟨0, List.mem_range.2 (by decide), ?_⟩
 rw [e]
 show ¬ (((sumN [96] 0 : Nat) : Int) == ((sumN [97] 0 : Nat) : Int)) = true
 rw [sum_get _ _ (by decide) (by decide), sum_get _ _ (by decide) (by decide)]
 have h : Nat.beq ((fastSum [96]).getD 0 0) ((fastSum [97]).getD 0 0) = false := by kernel_rfl
 intro h2
 have h3 : (fastSum [96]).getD 0 0 = (fastSum [97]).getD 0 0 := by
  have := eq_of_beq h2
  omega
 rw [h3, Nat.beq_refl] at h
 cases h
theorem c0_ok : whC c0 = true := whC_sum 5 0 [97]
def aD : Dk := ⟨[], [⟨false, c0⟩]⟩
theorem aD_eq : putD ⟨[], []⟩ 5 0 [97] = aD := rfl
theorem aD_v : VD aD := by
 rw [← aD_eq]
 exact VD.nil.put 5 0 fun x hx => by simp at hx; omega
theorem rD_eq : rotD (syncD aD) 0 0 1 = ⟨[x0], []⟩ := rfl
theorem cD_eq : crashD aD [] = ⟨[], []⟩ := rfl
theorem sm_nD {m : Nat → Option Nat} : simR m (AV.st [nilS, nilS]) (dkA false false ⟨[], []⟩) := sm_st (sms_cons (.inr ⟨rfl, by simp, .inl rfl, fun i hi => absurd hi (Nat.not_lt_zero i)⟩) (sms_cons sm_nilJ sms_nil))
theorem sm_a {m : Nat → Option Nat} : simR m (AV.dat 1 false 1 (fun (i : Nat) => (AV.v (Value.int IntKind.u8 (nthD ((97 : Int) :: []) (0 + i) (0 : Int)))))) (dbA false [97]) := sm_dat' rfl (by simp) fun i hi => match i, hi with | 0, _ => rfl
theorem TW : ((((true = true) ∧ (true = true)) ∧ (((true = true) ∧ (true = true)) ∧ True)) ∧ (((true = true) ∧ (true = true)) ∧ True)) := ⟨TD2, ⟨rfl, rfl⟩, trivial⟩
theorem small97 : Small [97] := fun x hx => by simp at hx; omega
theorem fun_cast {g : Nat} {args : List AV} {H H' : List (Nat × Blk)} {r r' : AV} (h : Fun C P g args H r H') (e : r = r') : Fun C P g args H r' H' := e ▸ h
theorem sanity_fun : Fun C P F_sanity [] [] (.sb true) [] := by
 refine in_sanity (W := w_sanity) rfl 0 (by simp) rfl (fun id h => absurd rfl h) fun D => ?_
 rw [sanity_A 0 _]
 have hp : Fun C P F_lput _ [] _ [] := (lput_fun false false ⟨[], []⟩ 5 0 false [97] small97 (by decide) (by decide)).sim (args := [AV.st [nilS, nilS], .i 5, .i 0, (AV.dat 1 false 1 (fun (i : Nat) => (AV.v (Value.int IntKind.u8 (nthD ((97 : Int) :: []) (0 + i) (0 : Int))))))]) (H := []) ⟨sm_nD, sm_int rfl, sm_int rfl, sm_a, trivial⟩ trivial
 refine ⟨by decide, hp, TW, cut_ok (S2 := S_sy2 aD 0) (ent_of [(1, 1)] rfl (tm_cons rfl (sm_same rfl) (tm_cons rfl (sm_ptr rfl) tm_nil)) (hp_cons rfl rfl (sm_same rfl) hp_nil)) ?_⟩
 clear hp
 have va := aD_v
 have la : aD.l.length + aD.q.length = 1 := rfl
 have es : syncD aD = ⟨[c0], []⟩ := rfl
 have vs := va.sync
 have vr := vs.rot 0 0 1
 have vc := va.crash []
 have ec := cD_eq
 have er := rD_eq
 obtain ⟨a, ea⟩ : ∃ a, a = aD := ⟨_, rfl⟩
 have g1 : gotB (cont a) 5 0 = [97] := by
  rw [ea]
  show (match getC [c0] 5 0 with | some c => if whC c = true then c.b else [] | none => []) = [97]
  show (if whC c0 = true then c0.b else []) = [97]
  rw [if_pos c0_ok]; rfl
 have g2 : gotE (cont a) 5 0 = 0 := by
  rw [ea]
  show (if whC c0 = true then (0 : Int) else 221) = 0
  rw [if_pos c0_ok]
 rw [← ea] at va la es vs vr vc ec er ⊢
 rw [sanity_C2 a 0 0 _, toDk_A]
 refine bne_then rfl ⟨rvalid_fun false false a (va.smV (by omega)), trivial, nf_then va.vld ⟨sync_fun false false a va.so (by omega), TD2, ?_⟩⟩
 rw [er] at vr
 have e1 : rotE (syncD a) 0 0 = 0 := by rw [es]; rfl
 obtain ⟨s, hs⟩ : ∃ s, s = syncD a := ⟨_, rfl⟩
 rw [← hs] at es vs er e1
 refine cut_ok (S2 := S_sy5 a s 0) (ent_of [(1, 1), (2, 2)] rfl (tm_cons rfl (sm_ptr rfl) (tm_cons rfl (sm_ptr rfl) tm_nil)) (hp_cons rfl rfl (sm_same rfl) (hp_cons rfl rfl (by rw [hs]; exact sm_same rfl) hp_nil))) ?_
 obtain ⟨r, hr⟩ : ∃ r : Dk, r = ⟨[x0], []⟩ := ⟨_, rfl⟩
 obtain ⟨c, hc⟩ : ∃ c : Dk, c = ⟨[], []⟩ := ⟨_, rfl⟩
 rw [← hr] at vr er
 rw [← hc] at ec
 rw [sanity_C5 a s 0 0 _, toDk_A, toDk_A, er, e1]
 have ls1 : s.l.length = 1 := by rw [es]; rfl
 have ls2 : s.q.length = 0 := by rw [es]; rfl
 have hcr := crash_fun false false a false [] va.so (by omega)
 rw [ec] at hcr vc
 have hrot := lrot_fun false false s (fun _ => 0) 1 (by omega) fun e he => by
  have := (vs.cs e he).2.2.2.2.1
  omega
 rw [er, e1] at hrot
 refine ⟨rvalid_fun false false s (vs.smV (by omega)), trivial, nf_then vs.vld (bne_then (by rw [ls1]; rfl) (bne_then (by rw [ls2]; rfl) ⟨?_, TW, ?_, TD2, ?_⟩))⟩
 ·exact hrot.sim ⟨sm_same rfl, sm_arr fun i hi => (match i, hi with | 0, _ => rfl | 1, _ => rfl), sm_same rfl, trivial⟩ trivial
 ·rw [ec, hc]
  rw [hc] at hcr
  refine Fun.sim (args2 := [dkA false false a, bA false []]) (H2 := []) hcr ⟨sm_same rfl, .inr ⟨rfl, by simp, .inl rfl, fun i hi => absurd hi (Nat.not_lt_zero i)⟩, trivial⟩ trivial
 rw [ec]
 refine cut_ok (S2 := S_sy9 a s r c 0 0) (ent_of [(1, 1), (2, 2), (3, 3), (4, 4)] rfl (tm_cons rfl (sm_ptr rfl) (tm_cons rfl (sm_ptr rfl) (tm_cons rfl (sm_ptr rfl) (tm_cons rfl (sm_ptr rfl) tm_nil)))) (hp_cons rfl rfl (sm_same rfl) (hp_cons rfl rfl (sm_same rfl) (hp_cons rfl rfl (sm_same rfl) (hp_cons rfl rfl (by rw [hc]; exact sm_same rfl) hp_nil))))) ?_
 have lr1 : r.l.length + r.q.length = 1 := by rw [hr]; rfl
 have lc1 : c.l.length + c.q.length = 0 := by rw [hc]; rfl
 rw [sanity_C9 a s r c 0 0 0 _, toDk_A, toDk_A]
 refine bne_then rfl ⟨rvalid_fun false false r (vr.smV (by omega)), trivial, nf_then vr.vld ⟨rvalid_fun false false c (vc.smV (by omega)), trivial, nf_then vc.vld (cut_ok (S2 := S_sy9 a s r c 0 0) (ent_of [(1, 1), (2, 2), (3, 3), (4, 4)] rfl (tm_cons rfl (sm_ptr rfl) (tm_cons rfl (sm_ptr rfl) (tm_cons rfl (sm_ptr rfl) (tm_cons rfl (sm_ptr rfl) tm_nil)))) (hp_cons rfl rfl (sm_same rfl) (hp_cons rfl rfl (sm_same rfl) (hp_cons rfl rfl (sm_same rfl) (hp_cons rfl rfl (sm_same rfl) hp_nil))))) ?_)⟩⟩
 rw [sanity_C11 a s r c 0 0 0 _, toDk_A, toDk_A, toDk_A, toDk_A]
 have g3 : gotE (cont c) 5 0 = 220 := by rw [hc]; rfl
 have g4 : gotE (cont r) 5 0 = 221 := by
  rw [hr]
  show (if whC x0 = true then (0 : Int) else 221) = 221
  rw [if_neg (by rw [x0_rot]; simp)]
 have g5 : gotE (cont s) 5 12 = 220 := by rw [es]; rfl
 have g6 : (badL (cont r)).length = 1 := by
  rw [hr]
  show ([x0].filter fun c => !whC c).length = 1
  rw [List.filter_cons, x0_rot]; rfl
 have g7 : (badL (cont s)).length = 0 := by
  rw [es]
  show ([c0].filter fun c => !whC c).length = 0
  rw [List.filter_cons, c0_ok]; rfl
 have g8 : cont s = [c0] := by rw [es]; rfl
 have e97 : bytesL 1 (fun (i : Nat) => (AV.v (Value.int IntKind.u8 (nthD ((97 : Int) :: []) (0 + i) (0 : Int))))) = [97] := rfl
 rw [bytesL_row, e97]
 have hz2 : (vldB ⟨[⟨0, 0, [], hz⟩, ⟨0, 0, [], hz⟩], []⟩) = false := by rfl
 have hva := fun_cast (valid_fun false false ⟨[⟨0, 0, [], hz⟩, ⟨0, 0, [], hz⟩], []⟩ ⟨by decide, by decide, fun j hj => by cases hj⟩) (congrArg AV.sb hz2)
 refine ⟨lget_fun false false a va 5 0 (by omega), by decide, ?_, trivial, tt_then (by rw [g1, g2, strB_refl]; rfl) ⟨lget_fun false false c vc 5 0 (by omega), tt_then (by rw [g3]; rfl) ⟨lget_fun false false r vr 5 0 (by omega), tt_then (by rw [g4]; rfl) ⟨lget_fun false false s vs 5 12 (by omega), tt_then (by rw [g5]; rfl) ⟨bad_fun false false r vr (by omega), tt_then (by rw [g6]; rfl) ⟨bad_fun false false s vs (by omega), tt_then (by rw [g7]; rfl) ⟨?_, tt_then rfl ⟨list_fun false false s vs (by omega), ?_, trivial, tt_then rfl ⟨valid_fun false false r (vr.smV (by omega)), trivial, tt_then vr.vld ⟨by decide, by decide, ?_, trivial, post_tmp rfl (sm_same rfl)⟩⟩⟩⟩⟩⟩⟩⟩⟩⟩
 ·exact (sgot_fun (gotB (cont a) 5 0) [97] (gotE (cont a) 5 0) 0 (by rw [g1]; exact small97) small97).sim ⟨sm_same rfl, sm_st (sms_cons sm_a (sms_cons (sm_int rfl) sms_nil)), trivial⟩ trivial
 ·refine fun_cast ((lput_fun false false s 4096 0 false [] (fun x hx => by cases hx) (by decide) (by omega)).sim (args := [dkA false false s, .i 4096, .i 0, nilS]) (H := []) ⟨sm_same rfl, sm_int rfl, sm_int rfl, .inr ⟨rfl, by simp, .inl rfl, fun i hi => absurd hi (Nat.not_lt_zero i)⟩, trivial⟩ trivial) ?_
  rfl
 ·refine (rslist_fun false false (cont s) (by rw [g8]; decide)).sim ⟨sm_same rfl, .inr ⟨by rw [g8]; rfl, by simp, .inr rfl, fun i hi => ?_⟩, trivial⟩ trivial
  rw [g8]
  match i, hi with
  | 0, _ => exact .inr ⟨rfl, rfl, fun m hm => .inl (match m, hm with | 0, _ => rfl | 1, _ => rfl)⟩
 ·exact hva.sim ⟨sm_st (sms_cons (.inr ⟨rfl, by simp, .inr rfl, fun i hi => .inr (match i, hi with | 0, _ => sms_cons (sm_int rfl) (sms_cons (sm_int rfl) (sms_cons (sm_nilS _) (sms_cons (sm_arr fun k _ => rfl) sms_nil))) | 1, _ => sms_cons (sm_int rfl) (sms_cons (sm_int rfl) (sms_cons (sm_nilS _) (sms_cons (sm_arr fun k _ => rfl) sms_nil))))⟩) (sms_cons sm_nilJ sms_nil)), trivial⟩ trivial
end Go.Bu.W
namespace Go.Bu.W
open Sp
theorem ty_bytes {n : Nat} {x : AV} (h : Typed C.tt (n + 2) 28 x) : ∃ l ex, Small l ∧ l.length ≤ maxLen ∧ ∀ m, simR m x (.dat l.length ex 1 (rowL l)) := by
 have hd : (C.tt 28).d = .slice 5 := by kernel_rfl
 have he : (C.tt 5).d = .int .u8 := by kernel_rfl
 have hs : (C.tt 5).size = 1 := by kernel_rfl
 simp only [Typed, hd] at h
 obtain ⟨m, ex, f, rfl, h1, h2⟩ := h
 have hb := typed_rowB (n := n) he h2
 exact ⟨bytesL m f, ex, small_bytesL hb, by rw [bytesL_len]; exact h1, fun _ => .inr ⟨(bytesL_len m f).symm, id, .inr hs, fun i hi => .inl (row_bytesL hb i hi)⟩⟩
theorem ty_bools {n : Nat} {x : AV} (h : Typed C.tt (n + 2) 29 x) : ∃ l ex, l.length ≤ maxLen ∧ ∀ m, simR m x (bA ex l) := by
 have hd : (C.tt 29).d = .slice 4 := by kernel_rfl
 have he : (C.tt 4).d = .bool := by kernel_rfl
 have hs : (C.tt 4).size = 1 := by kernel_rfl
 simp only [Typed, hd, he] at h
 obtain ⟨m, ex, f, rfl, h1, h2⟩ := h
 have hg : ∀ i, i < m → ((List.range m).map fun i => asB (f i)).getD i false = asB (f i) := fun i hi => by simp [List.getD_eq_getElem?_getD, hi]
 refine ⟨(List.range m).map fun i => asB (f i), ex, by simpa using h1, fun _ => .inr ⟨by simp, id, .inr hs, fun i hi => .inl ?_⟩⟩
 show f i = AV.sb (((List.range m).map fun i => asB (f i)).getD i false)
 rw [hg i hi]
 obtain ⟨b, hb⟩ := h2 i hi
 rw [hb]; rfl
def rx0 : Rw × Bool × Bool := (rw0, false, false)
abbrev rxA (p : Rw × Bool × Bool) : AV := rwA p.2.1 p.2.2 p.1
theorem ty_raw {n : Nat} {x : AV} (h : Typed C.tt (n + 3) 31 x) : ∃ p : Rw × Bool × Bool, OkRw p.1 ∧ sim (fun _ => none) x (rxA p) := by
 have hd : (C.tt 31).d = .struct [(5, 0), (5, 1), (5, 2), (28, 3), (29, 4)] := by kernel_rfl
 have he : (C.tt 5).d = .int .u8 := by kernel_rfl
 unfold Typed at h
 simp only [hd] at h
 obtain ⟨xs, rfl, hl, hx⟩ := h
 match xs, hl with
 | [a, b, c, d, e], _ =>
  obtain ⟨k, rfl, hk⟩ := typed_u8 (n := n + 1) he (hx 0 5 0 a rfl rfl)
  obtain ⟨i, rfl, hi⟩ := typed_u8 (n := n + 1) he (hx 1 5 1 b rfl rfl)
  obtain ⟨s, rfl, hs⟩ := typed_u8 (n := n + 1) he (hx 2 5 2 c rfl rfl)
  obtain ⟨l, ex, h1, _, s1⟩ := ty_bytes (hx 3 28 3 d rfl rfl)
  obtain ⟨q, ey, _, s2⟩ := ty_bools (hx 4 29 4 e rfl rfl)
  exact ⟨(⟨k, i, s, l, q⟩, ex, ey), ⟨hk, hi, hs, h1⟩, sms_cons (sm_same rfl) (sms_cons (sm_same rfl) (sms_cons (sm_same rfl) (sms_cons (s1 _) (sms_cons (s2 _) sms_nil))))⟩
theorem ty_raws {n : Nat} {x : AV} (h : Typed C.tt (n + 4) 22 x) : ∃ (l : List Rw) (ex : Bool) (e1 e2 : Nat → Bool), l.length ≤ maxLen ∧ (∀ x, x ∈ l → OkRw x) ∧ simR some x (rwsA ex e1 e2 l) := by
 obtain ⟨l, ex, hl, hq, s⟩ := typed_list (s := 31) (by kernel_rfl) rx0 rxA (fun p => OkRw p.1) (fun _ hy => ty_raw hy) h
 refine ⟨l.map (·.1), ex, fun i => (l.getD i rx0).2.1, fun i => (l.getD i rx0).2.2, by simpa using hl, fun x hx => ?_, ?_⟩
 ·obtain ⟨p, hp, rfl⟩ := List.mem_map.1 hx
  exact hq p hp
 ·have e : ∀ i, rwAt (l.map (·.1)) i = (l.getD i rx0).1 := fun i => by
   unfold rwAt
   rw [List.getD_eq_getElem?_getD, List.getD_eq_getElem?_getD, List.getElem?_map]
   cases l[i]? <;> rfl
  have e2 : (fun i => rxA (l.getD i rx0)) = fun i => rwA ((fun i => (l.getD i rx0).2.1) i) ((fun i => (l.getD i rx0).2.2) i) (rwAt (l.map (·.1)) i) := by
   funext i
   rw [e i]
  rw [e2] at s
  have e3 : (C.tt 31).size = 5 := by kernel_rfl
  rw [e3] at s
  rw [show l.length = (l.map (·.1)).length by simp] at s
  exact s
theorem ty_cell {n : Nat} {x : AV} (h : Typed C.tt (n + 3) 60 x) : ∃ c : Cl, Small c.b ∧ sim (fun _ => none) x (clA c) := by
 have hd : (C.tt 60).d = .struct [(3, 0), (3, 1), (28, 2), (58, 3)] := by kernel_rfl
 have he : (C.tt 3).d = .int .i64 := by kernel_rfl
 unfold Typed at h
 simp only [hd] at h
 obtain ⟨xs, rfl, hl, hx⟩ := h
 match xs, hl with
 | [a, b, c, d], _ =>
  obtain ⟨i, rfl, _⟩ := typed_i64 (n := n + 1) he (hx 0 3 0 a rfl rfl)
  obtain ⟨s, rfl, _⟩ := typed_i64 (n := n + 1) he (hx 1 3 1 b rfl rfl)
  obtain ⟨l, ex, h1, _, s1⟩ := ty_bytes (hx 2 28 2 c rfl rfl)
  obtain ⟨z, hz, f, rfl, hf⟩ := typed_u8s (n := n) (t := 58) (e := 5) (m := 32) (by kernel_rfl) (by kernel_rfl) (by kernel_rfl) (hx 3 58 3 d rfl rfl)
  refine ⟨⟨i, s, l, z⟩, h1, sms_cons (sm_same rfl) (sms_cons (sm_same rfl) (sms_cons ?_ (sms_cons (sm_arr hf) sms_nil)))⟩
  rcases s1 (fun _ => none) with ⟨_, rfl⟩ | s1
  ·exact sm_dat (by simp) fun _ _ => rfl
  ·cases c with
   | dat m ey e g => exact .inr ⟨s1.1, by simp, s1.2.2.1, s1.2.2.2⟩
   | _ => exact s1.elim
theorem ty_job {n : Nat} {x : AV} (h : Typed C.tt (n + 4) 62 x) : ∃ j : Jb, Small j.c.b ∧ sim (fun _ => none) x (jbA j) := by
 have hd : (C.tt 62).d = .struct [(4, 0), (60, 1)] := by kernel_rfl
 have he : (C.tt 4).d = .bool := by kernel_rfl
 unfold Typed at h
 simp only [hd] at h
 obtain ⟨xs, rfl, hl, hx⟩ := h
 match xs, hl with
 | [a, b], _ =>
  have ha := hx 0 4 0 a rfl rfl
  simp only [Typed, he] at ha
  obtain ⟨dr, rfl⟩ := ha
  obtain ⟨c, hc, s⟩ := ty_cell (hx 1 60 1 b rfl rfl)
  exact ⟨⟨dr, c⟩, hc, sms_cons (sm_same rfl) (sms_cons (.inr s) sms_nil)⟩
theorem ty_disk {x : AV} (h : Typed C.tt 6 27 x) : ∃ d : Dk, (∀ j, j ∈ d.q → Small j.c.b) ∧ simR some x (dkA false false d) := by
 have hd : (C.tt 27).d = .struct [(24, 0), (25, 1)] := by kernel_rfl
 unfold Typed at h
 simp only [hd] at h
 obtain ⟨xs, rfl, hl, hx⟩ := h
 match xs, hl with
 | [a, b], _ =>
  obtain ⟨l, ex, h1, _, s1⟩ := typed_list (n := 4) (s := 60) (by kernel_rfl) cl0 clA (fun c => Small c.b) (fun _ hy => ty_cell hy) (hx 0 24 0 a rfl rfl)
  obtain ⟨q, ey, h3, h4, s2⟩ := typed_list (n := 4) (s := 62) (by kernel_rfl) jb0 jbA (fun j => Small j.c.b) (fun _ hy => ty_job hy) (hx 1 25 1 b rfl rfl)
  rw [show (C.tt 60).size = 35 by kernel_rfl] at s1
  rw [show (C.tt 62).size = 36 by kernel_rfl] at s2
  have w : ∀ {x : AV} {n e : Nat} {ex : Bool} {f : Nat → AV}, simR some x (.dat n ex e f) → simR some x (.dat n false e f) := fun {x n e ex f} s => by
   rcases s with ⟨_, rfl⟩ | s
   ·exact sm_dat (by simp) fun _ _ => rfl
   ·cases x with
    | dat m ey e g => exact .inr ⟨s.1, by simp, s.2.2.1, s.2.2.2⟩
    | _ => exact s.elim
  refine ⟨⟨l, q⟩, h4, sm_st (sms_cons (w s1) (sms_cons (w s2) sms_nil))⟩
end Go.Bu.W
namespace Go.Bu.W
open Sp
theorem VD.gotB {d : Dk} (h : VD d) (i s : Int) : Small (gotB (cont d) i s) := by
 unfold Go.Bu.W.gotB
 cases hg : getC (cont d) i s with
 | none => exact fun x hx => by cases hx
 | some c =>
  show Small (if whC c = true then c.b else [])
  split
  ·exact (h.smc (getC_some hg).1).1
  ·exact fun x hx => by cases hx
theorem wr_u8 {i : Nat} (h : i < 256) : IntKind.wrap IntKind.u8 ((i : Nat) : Int) = ((i : Nat) : Int) := by rw [wrap_u8]; omega
theorem got_same (a : List Nat) (e : Int) : (strB a a && (e == e)) = true := by rw [strB_refl, beq_self_eq_true]; rfl
theorem small_of {l : List Rw} (hx : ∀ x, x ∈ l → OkRw x) : ∀ x, x ∈ l → Small x.b := fun x h => (hx x h).b
theorem made_ok {l : List Rw} (hx : ∀ x, x ∈ l → OkRw x) (n : Nat) : VD (madeN l (min n l.length)) ∧ Few (madeN l (min n l.length)) n := by
 refine ⟨VD.made (small_of hx) _, ?_⟩
 have h := Few.made (small_of hx) (min n l.length)
 exact ⟨by have := h.len; have := Nat.min_le_left n l.length; omega, h.cs, h.js⟩
end Go.Bu.W

