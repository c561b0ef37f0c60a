/- The reference's rot. -/
import Derived.Test.YtoaefniopgmoaaaDoorK21
import Derived.Test.YtoaefniopgmoaaaDoorK13
namespace Go.Bu.W
open Sp
def w_rrot : Way := wayZ [0, 1, 2, 3, 4, 8, 9, 33] 66 [4]
def S_rr4 (d : Dk) (q : AV) (c k y : Nat) (fs : List AV) (n : Nat) : St := { tm := [(1, .i c), (2, .i k), (3, u8 y), (4, .ptr 4 []), (8, .ptr 8 []), (9, .sl 39 [] 0 n n false 35)], hp := [(4, .c (.st [csA false d.l, q])), (8, .c (.st [.st [nilS, nilS], .i 0])), (39, .c (.st fs))], seen := [4, 8, 39] }
def S_rr4r (d : Dk) (q : AV) (c k y : Nat) : St := { tm := [(1, .i c), (2, .i k), (3, u8 y), (4, .ptr 4 []), (8, .ptr 8 []), (9, .sl 39 [] 0 d.l.length d.l.length false 35)], hp := [(4, .c (.st [csA false d.l, q])), (8, .c (.st [.st [nilS, nilS], .i 0])), (39, .c (arC d.l))], seen := [4, 8, 39] }
theorem rrot_A (ex ey : Bool) (d : Dk) (c k : Int) (y : Nat) {D : Dom} (K : Nat) (Φ : Ex → St → Prop) :
 (Holds C P 66 D K Φ (vc C w_rrot b_rrot [] (start [dkA ex ey d, .i c, .i k, u8 y] []) lf)) =
 (((decide (c < (0 : Int))) = true →
 (((((true = true) ∧ (true = true)) ∧ (((true = true) ∧ (true = true)) ∧ True)) ∧ (((true = true) ∧ (true = true)) ∧ True)) ∧
 (Φ Ex.ret (St.mk [(0, (dkA ex ey d)), (1, (AV.i c)), (2, (AV.i k)), (3, (AV.v (Value.int IntKind.u8 ((y : Nat) : Int)))), (4, (AV.ptr 4 [])), (8, (AV.ptr 8 [])), (33, (AV.v (Value.bool true)))] [(4, (Blk.c (dkA ex ey d))), (8, (Blk.c (AV.st [(dkA ex ey d), (AV.i (220 : Int))])))] [8, 4])))) ∧
 ((decide (c < (0 : Int))) = false →
 (((decide (c ≥ (((List.length (Dk.l d)) : Nat) : Int))) = true →
 (((((true = true) ∧ (true = true)) ∧ (((true = true) ∧ (true = true)) ∧ True)) ∧ (((true = true) ∧ (true = true)) ∧ True)) ∧
 (Φ Ex.ret (St.mk [(0, (dkA ex ey d)), (1, (AV.i c)), (2, (AV.i k)), (3, (AV.v (Value.int IntKind.u8 ((y : Nat) : Int)))), (4, (AV.ptr 4 [])), (8, (AV.ptr 8 [])), (33, (AV.v (Value.bool true)))] [(4, (Blk.c (dkA ex ey d))), (8, (Blk.c (AV.st [(dkA ex ey d), (AV.i (220 : Int))])))] [8, 4])))) ∧
 ((decide (c ≥ (((List.length (Dk.l d)) : Nat) : Int))) = false →
 (((decide (k < (0 : Int))) = true →
 (((((true = true) ∧ (true = true)) ∧ (((true = true) ∧ (true = true)) ∧ True)) ∧ (((true = true) ∧ (true = true)) ∧ True)) ∧
 (Φ Ex.ret (St.mk [(0, (dkA ex ey d)), (1, (AV.i c)), (2, (AV.i k)), (3, (AV.v (Value.int IntKind.u8 ((y : Nat) : Int)))), (4, (AV.ptr 4 [])), (8, (AV.ptr 8 [])), (33, (AV.v (Value.bool true)))] [(4, (Blk.c (dkA ex ey d))), (8, (Blk.c (AV.st [(dkA ex ey d), (AV.i (220 : Int))])))] [8, 4])))) ∧
 ((decide (k < (0 : Int))) = false →
 ((((0 : Int) ≤ c) ∧ (c < (((List.length (Dk.l d)) : Nat) : Int))) ∧
 (((decide (k ≥ (((List.length (Cl.b (clAt (Dk.l d) (Int.toNat c)))) : Nat) : Int))) = true →
 (((((true = true) ∧ (true = true)) ∧ (((true = true) ∧ (true = true)) ∧ True)) ∧ (((true = true) ∧ (true = true)) ∧ True)) ∧
 (Φ Ex.ret (St.mk [(0, (dkA ex ey d)), (1, (AV.i c)), (2, (AV.i k)), (3, (AV.v (Value.int IntKind.u8 ((y : Nat) : Int)))), (4, (AV.ptr 4 [])), (8, (AV.ptr 8 [])), (33, (AV.v (Value.bool true)))] [(4, (Blk.c (dkA ex ey d))), (8, (Blk.c (AV.st [(dkA ex ey d), (AV.i (220 : Int))])))] [8, 4])))) ∧
 ((decide (k ≥ (((List.length (Cl.b (clAt (Dk.l d) (Int.toNat c)))) : Nat) : Int))) = false →
 ((((0 + (List.length (Dk.l d))) * 72) ≤ 140737488355328) ∧
 (∃ (S2 : St), Ent C 66 D K (St.mk [(0, (dkA ex ey d)), (1, (AV.i c)), (2, (AV.i k)), (3, (AV.v (Value.int IntKind.u8 ((y : Nat) : Int)))), (4, (AV.ptr 4 [])), (8, (AV.ptr 8 [])), (9, (AV.sl 39 [] 0 (0 + (List.length (Dk.l d))) (0 + (List.length (Dk.l d))) false 35)), (33, (AV.v (Value.bool false)))] [(4, (Blk.c (dkA ex ey d))), (8, (Blk.c (AV.st [(AV.st [(AV.dat 0 true 0 (fun (x : Nat) => (AV.v (Value.tuple #[])))), (AV.dat 0 true 0 (fun (x : Nat) => (AV.v (Value.tuple #[]))))]), (AV.i (0 : Int))]))), (39, (Blk.c (AV.arr (0 + (List.length (Dk.l d))) 35 (cat 0 (fun (i : Nat) => (AV.v (Value.tuple #[]))) (fun (i : Nat) => (clA (clAt (Dk.l d) i)))))))] [39, 36, 8, 4]) S2 ∧ Holds C P 66 D K Φ (cutAt C w_rrot b_rrot [1, 1, 1, 0] S2 (after C w_rrot b_rrot [1, 1, 1, 0] [] lf))))))))))))) := by kernel_rfl
theorem rrot_C4c0 (d : Dk) (ey : Bool) (k y n : Nat) (x : Cl) (r : List AV) {D : Dom} (K : Nat) (Φ : Ex → St → Prop) :
 (Holds C P 66 D K Φ (cutAt C w_rrot b_rrot [1, 1, 1, 0] (S_rr4 d (jsA ey d.q) 0 k y (clA x :: r) n) (after C w_rrot b_rrot [1, 1, 1, 0] [] lf))) =
 ((((0 : Int) ≤ (0 : Int)) ∧ ((0 : Int) < ((n : Nat) : Int))) ∧
 ((((0 + (List.length (Cl.b x))) * 1) ≤ 140737488355328) ∧
 ((((0 : Int) ≤ (0 : Int)) ∧ ((0 : Int) < ((n : Nat) : Int))) ∧
 ((((0 : Int) ≤ (0 : Int)) ∧ ((0 : Int) < ((n : Nat) : Int))) ∧
 ((((0 : Int) ≤ ((k : Nat) : Int)) ∧ (((k : Nat) : Int) < (((0 + (List.length (Cl.b x))) : Nat) : Int))) ∧
 ((((0 : Int) ≤ ((k : Nat) : Int)) ∧ (((k : Nat) : Int) < (((0 + (List.length (Cl.b x))) : Nat) : Int))) ∧
 (((((true = true) ∧ (true = true)) ∧ (((true = true) ∧ (true = true)) ∧ True)) ∧ (((true = true) ∧ (true = true)) ∧ True)) ∧
 (Φ Ex.ret (St.mk [(1, (AV.i (0 : Int))), (2, (AV.i ((k : Nat) : Int))), (3, (AV.v (Value.int IntKind.u8 ((y : Nat) : Int)))), (4, (AV.ptr 4 [])), (8, (AV.ptr 8 [])), (9, (AV.sl 39 [] 0 n n false 35))] [(4, (Blk.c (AV.st [(AV.sl 39 [] 0 n n false 35), (jsA ey (Dk.q d))]))), (8, (Blk.c (AV.st [(AV.st [(AV.sl 39 [] 0 n n false 35), (jsA ey (Dk.q d))]), (AV.i (0 : Int))]))), (39, (Blk.c (AV.st ((AV.st [(AV.i (Cl.i x)), (AV.i (Cl.s x)), (AV.sl 48 [] 0 (0 + (List.length (Cl.b x))) (0 + (List.length (Cl.b x))) false 1), (hA (Cl.h x))]) :: r)))), (48, (Blk.c (AV.arr (0 + (List.length (Cl.b x))) 1 (fun (j : Nat) => (if (j = (0 + k)) then (AV.v (Value.int IntKind.u8 (bXor IntKind.u8 (((List.getD (Cl.b x) (0 + k) 0) : Nat) : Int) ((y : Nat) : Int)))) else (AV.v (Value.int IntKind.u8 (((List.getD (Cl.b x) j 0) : Nat) : Int))))))))] [48, 42, 4, 8, 39]))))))))) := by kernel_rfl
theorem rrot_C4c1 (d : Dk) (ey : Bool) (k y n : Nat) (x0 : Cl) (x : Cl) (r : List AV) {D : Dom} (K : Nat) (Φ : Ex → St → Prop) :
 (Holds C P 66 D K Φ (cutAt C w_rrot b_rrot [1, 1, 1, 0] (S_rr4 d (jsA ey d.q) 1 k y (clA x0 :: clA x :: r) n) (after C w_rrot b_rrot [1, 1, 1, 0] [] lf))) =
 ((((0 : Int) ≤ (1 : Int)) ∧ ((1 : Int) < ((n : Nat) : Int))) ∧
 ((((0 + (List.length (Cl.b x))) * 1) ≤ 140737488355328) ∧
 ((((0 : Int) ≤ (1 : Int)) ∧ ((1 : Int) < ((n : Nat) : Int))) ∧
 ((((0 : Int) ≤ (1 : Int)) ∧ ((1 : Int) < ((n : Nat) : Int))) ∧
 ((((0 : Int) ≤ ((k : Nat) : Int)) ∧ (((k : Nat) : Int) < (((0 + (List.length (Cl.b x))) : Nat) : Int))) ∧
 ((((0 : Int) ≤ ((k : Nat) : Int)) ∧ (((k : Nat) : Int) < (((0 + (List.length (Cl.b x))) : Nat) : Int))) ∧
 (((((true = true) ∧ (true = true)) ∧ (((true = true) ∧ (true = true)) ∧ True)) ∧ (((true = true) ∧ (true = true)) ∧ True)) ∧
 (Φ Ex.ret (St.mk [(1, (AV.i (1 : Int))), (2, (AV.i ((k : Nat) : Int))), (3, (AV.v (Value.int IntKind.u8 ((y : Nat) : Int)))), (4, (AV.ptr 4 [])), (8, (AV.ptr 8 [])), (9, (AV.sl 39 [] 0 n n false 35))] [(4, (Blk.c (AV.st [(AV.sl 39 [] 0 n n false 35), (jsA ey (Dk.q d))]))), (8, (Blk.c (AV.st [(AV.st [(AV.sl 39 [] 0 n n false 35), (jsA ey (Dk.q d))]), (AV.i (0 : Int))]))), (39, (Blk.c (AV.st ((clA x0) :: ((AV.st [(AV.i (Cl.i x)), (AV.i (Cl.s x)), (AV.sl 48 [] 0 (0 + (List.length (Cl.b x))) (0 + (List.length (Cl.b x))) false 1), (hA (Cl.h x))]) :: r))))), (48, (Blk.c (AV.arr (0 + (List.length (Cl.b x))) 1 (fun (j : Nat) => (if (j = (0 + k)) then (AV.v (Value.int IntKind.u8 (bXor IntKind.u8 (((List.getD (Cl.b x) (0 + k) 0) : Nat) : Int) ((y : Nat) : Int)))) else (AV.v (Value.int IntKind.u8 (((List.getD (Cl.b x) j 0) : Nat) : Int))))))))] [48, 42, 4, 8, 39]))))))))) := by kernel_rfl
theorem rrot_C4c2 (d : Dk) (ey : Bool) (k y n : Nat) (x0 x1 : Cl) (x : Cl) (r : List AV) {D : Dom} (K : Nat) (Φ : Ex → St → Prop) :
 (Holds C P 66 D K Φ (cutAt C w_rrot b_rrot [1, 1, 1, 0] (S_rr4 d (jsA ey d.q) 2 k y (clA x0 :: clA x1 :: clA x :: r) n) (after C w_rrot b_rrot [1, 1, 1, 0] [] lf))) =
 ((((0 : Int) ≤ (2 : Int)) ∧ ((2 : Int) < ((n : Nat) : Int))) ∧
 ((((0 + (List.length (Cl.b x))) * 1) ≤ 140737488355328) ∧
 ((((0 : Int) ≤ (2 : Int)) ∧ ((2 : Int) < ((n : Nat) : Int))) ∧
 ((((0 : Int) ≤ (2 : Int)) ∧ ((2 : Int) < ((n : Nat) : Int))) ∧
 ((((0 : Int) ≤ ((k : Nat) : Int)) ∧ (((k : Nat) : Int) < (((0 + (List.length (Cl.b x))) : Nat) : Int))) ∧
 ((((0 : Int) ≤ ((k : Nat) : Int)) ∧ (((k : Nat) : Int) < (((0 + (List.length (Cl.b x))) : Nat) : Int))) ∧
 (((((true = true) ∧ (true = true)) ∧ (((true = true) ∧ (true = true)) ∧ True)) ∧ (((true = true) ∧ (true = true)) ∧ True)) ∧
 (Φ Ex.ret (St.mk [(1, (AV.i (2 : Int))), (2, (AV.i ((k : Nat) : Int))), (3, (AV.v (Value.int IntKind.u8 ((y : Nat) : Int)))), (4, (AV.ptr 4 [])), (8, (AV.ptr 8 [])), (9, (AV.sl 39 [] 0 n n false 35))] [(4, (Blk.c (AV.st [(AV.sl 39 [] 0 n n false 35), (jsA ey (Dk.q d))]))), (8, (Blk.c (AV.st [(AV.st [(AV.sl 39 [] 0 n n false 35), (jsA ey (Dk.q d))]), (AV.i (0 : Int))]))), (39, (Blk.c (AV.st ((clA x0) :: ((clA x1) :: ((AV.st [(AV.i (Cl.i x)), (AV.i (Cl.s x)), (AV.sl 48 [] 0 (0 + (List.length (Cl.b x))) (0 + (List.length (Cl.b x))) false 1), (hA (Cl.h x))]) :: r)))))), (48, (Blk.c (AV.arr (0 + (List.length (Cl.b x))) 1 (fun (j : Nat) => (if (j = (0 + k)) then (AV.v (Value.int IntKind.u8 (bXor IntKind.u8 (((List.getD (Cl.b x) (0 + k) 0) : Nat) : Int) ((y : Nat) : Int)))) else (AV.v (Value.int IntKind.u8 (((List.getD (Cl.b x) j 0) : Nat) : Int))))))))] [48, 42, 4, 8, 39]))))))))) := by kernel_rfl
theorem rrot_C4c3 (d : Dk) (ey : Bool) (k y n : Nat) (x0 x1 x2 : Cl) (x : Cl) (r : List AV) {D : Dom} (K : Nat) (Φ : Ex → St → Prop) :
 (Holds C P 66 D K Φ (cutAt C w_rrot b_rrot [1, 1, 1, 0] (S_rr4 d (jsA ey d.q) 3 k y (clA x0 :: clA x1 :: clA x2 :: clA x :: r) n) (after C w_rrot b_rrot [1, 1, 1, 0] [] lf))) =
 ((((0 : Int) ≤ (3 : Int)) ∧ ((3 : Int) < ((n : Nat) : Int))) ∧
 ((((0 + (List.length (Cl.b x))) * 1) ≤ 140737488355328) ∧
 ((((0 : Int) ≤ (3 : Int)) ∧ ((3 : Int) < ((n : Nat) : Int))) ∧
 ((((0 : Int) ≤ (3 : Int)) ∧ ((3 : Int) < ((n : Nat) : Int))) ∧
 ((((0 : Int) ≤ ((k : Nat) : Int)) ∧ (((k : Nat) : Int) < (((0 + (List.length (Cl.b x))) : Nat) : Int))) ∧
 ((((0 : Int) ≤ ((k : Nat) : Int)) ∧ (((k : Nat) : Int) < (((0 + (List.length (Cl.b x))) : Nat) : Int))) ∧
 (((((true = true) ∧ (true = true)) ∧ (((true = true) ∧ (true = true)) ∧ True)) ∧ (((true = true) ∧ (true = true)) ∧ True)) ∧
 (Φ Ex.ret (St.mk [(1, (AV.i (3 : Int))), (2, (AV.i ((k : Nat) : Int))), (3, (AV.v (Value.int IntKind.u8 ((y : Nat) : Int)))), (4, (AV.ptr 4 [])), (8, (AV.ptr 8 [])), (9, (AV.sl 39 [] 0 n n false 35))] [(4, (Blk.c (AV.st [(AV.sl 39 [] 0 n n false 35), (jsA ey (Dk.q d))]))), (8, (Blk.c (AV.st [(AV.st [(AV.sl 39 [] 0 n n false 35), (jsA ey (Dk.q d))]), (AV.i (0 : Int))]))), (39, (Blk.c (AV.st ((clA x0) :: ((clA x1) :: ((clA x2) :: ((AV.st [(AV.i (Cl.i x)), (AV.i (Cl.s x)), (AV.sl 48 [] 0 (0 + (List.length (Cl.b x))) (0 + (List.length (Cl.b x))) false 1), (hA (Cl.h x))]) :: r))))))), (48, (Blk.c (AV.arr (0 + (List.length (Cl.b x))) 1 (fun (j : Nat) => (if (j = (0 + k)) then (AV.v (Value.int IntKind.u8 (bXor IntKind.u8 (((List.getD (Cl.b x) (0 + k) 0) : Nat) : Int) ((y : Nat) : Int)))) else (AV.v (Value.int IntKind.u8 (((List.getD (Cl.b x) j 0) : Nat) : Int))))))))] [48, 42, 4, 8, 39]))))))))) := by kernel_rfl
theorem lend_cl (H : List (Nat × Blk)) (c : Cl) (n : Nat) : lend H (n + 6) (clA c) = some (clA c) := rfl
theorem lends_cl (H : List (Nat × Blk)) : ∀ (l : List Cl) (n : Nat), l.length + 7 ≤ n → lend.lends H n (l.map clA) = some (l.map clA)
 | [], n, h => by
  obtain ⟨m, rfl⟩ : ∃ m, n = m + 1 := ⟨n - 1, by simp at h; omega⟩
  rfl
 | c :: r, n, h => by
  simp only [List.length_cons] at h
  obtain ⟨m, rfl⟩ : ∃ m, n = m + 7 := ⟨n - 7, by omega⟩
  have ih := lends_cl H r (m + 6) (by omega)
  show lend.lends H (m + 6 + 1) (clA c :: r.map clA) = some (clA c :: r.map clA)
  simp only [lend.lends]
  rw [lend_cl H c m, ih]
theorem lends_mid (H : List (Nat × Blk)) {y y' : AV} (hy : ∀ n, lend H (n + 6) y = some y') (post : List Cl) : ∀ (pre : List Cl) (n : Nat), pre.length + post.length + 8 ≤ n → lend.lends H n (pre.map clA ++ y :: post.map clA) = some (pre.map clA ++ y' :: post.map clA)
 | [], n, h => by
  simp only [List.length_nil] at h
  obtain ⟨m, rfl⟩ : ∃ m, n = m + 7 := ⟨n - 7, by omega⟩
  have ih := lends_cl H post (m + 6) (by omega)
  show lend.lends H (m + 6 + 1) (y :: post.map clA) = some (y' :: post.map clA)
  simp only [lend.lends]
  rw [hy m, ih]
 | c :: r, n, h => by
  simp only [List.length_cons] at h
  obtain ⟨m, rfl⟩ : ∃ m, n = m + 7 := ⟨n - 7, by omega⟩
  have ih := lends_mid H hy post r (m + 6) (by omega)
  show lend.lends H (m + 6 + 1) (clA c :: (r.map clA ++ y :: post.map clA)) = some (clA c :: (r.map clA ++ y' :: post.map clA))
  simp only [lend.lends]
  rw [lend_cl H c m, ih]
theorem map_sizes : ∀ (l : List Cl), sizesAll 35 (l.map clA) = true
 | [] => rfl
 | c :: r => map_sizes r
theorem map_noid : ∀ (l : List Cl), AV.noid.noids (l.map clA) = true
 | [] => rfl
 | c :: r => map_noid r
theorem map_nth (l : List Cl) (i : Nat) (x : AV) (h : nth? (l.map clA) i = some x) : rowC l i = x := by
 rw [nth?_get, List.getElem?_map] at h
 cases hl : l[i]? with
 | none => rw [hl] at h; cases h
 | some c =>
  rw [hl] at h; cases h
  show clA (clAt l i) = clA c
  congr 1
  unfold clAt
  rw [List.getD_eq_getElem?_getD, hl]; rfl
theorem sms_same : ∀ {m : Nat → Option Nat} (l : List Cl), sim.sims m (l.map clA) (l.map clA)
 | _, [] => sms_nil
 | _, c :: r => sms_cons (sm_same rfl) (sms_same r)
theorem sms_mid {m : Nat → Option Nat} {y z : AV} (h : simR m y z) (post : List Cl) : ∀ pre : List Cl, sim.sims m (pre.map clA ++ y :: post.map clA) (pre.map clA ++ z :: post.map clA)
 | [] => sms_cons h (sms_same post)
 | c :: r => sms_cons (sm_same rfl) (sms_mid h post r)
theorem rr_end (pre post : List Cl) (x : Cl) (k y : Nat) (q : List Jb) (ey : Bool) {n : Nat} (hn : n = (pre ++ setB x k y :: post).length) (hl : pre.length + post.length ≤ 12) (hk : k < x.b.length) {S : St} {fs : List AV} {b4 : Blk}
  (h1 : look S.tm 8 = some (.ptr 8 []))
  (h2 : S.hp = [(4, b4), (8, .c (.st [.st [.sl 39 [] 0 n n false 35, jsA ey q], .i 0])), (39, .c (.st fs)), (48, .c (.arr (0 + x.b.length) 1 (fun (j : Nat) => (if (j = (0 + k)) then (AV.v (Value.int IntKind.u8 (bXor IntKind.u8 (((List.getD x.b (0 + k) 0) : Nat) : Int) ((y : Nat) : Int)))) else (AV.v (Value.int IntKind.u8 (((List.getD x.b j 0) : Nat) : Int)))))))])
  (h3 : fs = pre.map clA ++ (.st [.i x.i, .i x.s, .sl 48 [] 0 (0 + x.b.length) (0 + x.b.length) false 1, hA x.h]) :: post.map clA) (h4 : S.seen = [48, 42, 4, 8, 39]) :
  FunPost C 66 0 [.cell 8 34] (.st [dkA false false ⟨pre ++ setB x k y :: post, q⟩, .i 0]) [] .ret S := by
 obtain ⟨g, hg⟩ : ∃ g : Nat → AV, g = fun (j : Nat) => (if (j = (0 + k)) then (AV.v (Value.int IntKind.u8 (bXor IntKind.u8 (((List.getD x.b (0 + k) 0) : Nat) : Int) ((y : Nat) : Int)))) else (AV.v (Value.int IntKind.u8 (((List.getD x.b j 0) : Nat) : Int)))) := ⟨_, rfl⟩
 rw [← hg] at h2
 obtain ⟨H, hH⟩ : ∃ H : List (Nat × Blk), H = [(48, .c (.arr (0 + x.b.length) 1 g))] := ⟨_, rfl⟩
 have hK : keepOnly S.hp [48] = H := by rw [h2, hH]; rfl
 have e8 : look (S.freeze [48]).tm 8 = some (.ptr 8 []) := by
  show look (mapSnd (frzT (keepOnly S.hp [48])) S.tm) 8 = _
  rw [look_mapSnd, h1, hK, hH]; rfl
 have d : dropAll S.hp [48] = [(4, b4), (8, .c (.st [.st [.sl 39 [] 0 n n false 35, jsA ey q], .i 0])), (39, .c (.st fs))] := by rw [h2]; rfl
 have f8 : look (S.freeze [48]).hp 8 = some (.c (.st [.st [.sl 39 [] 0 n n false 35, jsA ey q], .i 0])) := by
  show look (mapSnd (frzB (keepOnly S.hp [48])) (dropAll S.hp [48])) 8 = _
  rw [look_mapSnd, d, hK, hH]; rfl
 obtain ⟨y', hy'⟩ : ∃ y' : AV, y' = .st [.i x.i, .i x.s, .dat (0 + x.b.length) false 1 (fun i => g (0 + i)), hA x.h] := ⟨_, rfl⟩
 have hl2 : ∀ m, lend H (m + 6) (.st [.i x.i, .i x.s, .sl 48 [] 0 (0 + x.b.length) (0 + x.b.length) false 1, hA x.h]) = some y' := fun m => by rw [hH, hy']; rfl
 have f39 : look (S.freeze [48]).hp 39 = some (.c (.st (pre.map clA ++ y' :: post.map clA))) := by
  show look (mapSnd (frzB (keepOnly S.hp [48])) (dropAll S.hp [48])) 39 = _
  rw [look_mapSnd, d, hK]
  show some (Blk.c (frzT H (.st fs))) = _
  have e : lend H 40 (.st fs) = some (.st (pre.map clA ++ y' :: post.map clA)) := by
   have := lends_mid H hl2 post pre 39 (by omega)
   rw [h3]
   simp only [lend]
   rw [this]
  show some (Blk.c (match lend H 40 (.st fs) with | some y => y | none => .st fs)) = _
  rw [e]
 have sy : ∀ m, simR m y' (clA (setB x k y)) := fun m => by
  rw [hy']
  refine sm_st (sms_cons (sm_int rfl) (sms_cons (sm_int rfl) (sms_cons (sm_dat' (by show 0 + x.b.length = (x.b.set k _).length; rw [List.length_set, Nat.zero_add]) (by simp) fun i hi => ?_) (sms_cons (sm_same rfl) sms_nil))))
  rw [hg]
  have := row_xor x.b k y (0 + i) (by omega)
  rw [Nat.zero_add i] at this ⊢
  exact this
 obtain ⟨L, hL⟩ : ∃ L : List Cl, L = pre ++ setB x k y :: post := ⟨_, rfl⟩
 have hm : L.map clA = pre.map clA ++ clA (setB x k y) :: post.map clA := by rw [hL, List.map_append]; rfl
 rw [← hL] at hn ⊢
 subst hn
 refine post_frz [48] (post_ent (S1 := { tm := [(8, .ptr 8 [])], hp := [(8, .c (.st [.st [slC 39 L, jsA ey q], .i 0])), (39, .c (.st (L.map clA)))], seen := [8, 39] }) (ent_of [(8, 8), (39, 39)] ?_ (tm_cons e8 (sm_ptr rfl) tm_nil) (hp_cons rfl f8 (sm_st (sms_cons (sm_st (sms_cons (sm_sl rfl rfl (Nat.le_refl _) (Nat.le_refl _) (by simp)) (sms_cons (sm_same rfl) sms_nil))) (sms_cons (sm_int rfl) sms_nil))) (hp_cons rfl f39 (by rw [hm]; exact sm_st (sms_mid (sy _) post pre)) hp_nil))) ?_)
 ·show namesOK _ 0 S.seen _ _ = true
  rw [h4]; rfl
 refine post_ent (S1 := { tm := [(8, .ptr 8 [])], hp := [(8, .c (.st [.st [slC 39 L, jsA ey q], .i 0])), (39, .c (arC L))], seen := [8, 39] }) (ent_of [(8, 8), (39, 39)] rfl (tm_cons rfl (sm_ptr rfl) tm_nil) (hp_cons rfl rfl (sm_st (sms_cons (sm_st (sms_cons (sm_sl rfl rfl (Nat.le_refl _) (Nat.le_refl _) (by simp)) (sms_cons (sm_same rfl) sms_nil))) (sms_cons (sm_int rfl) sms_nil))) (hp_cons rfl rfl (sm_row (by simp) (map_sizes L) (map_noid L) fun i x hx => map_nth L i x hx) hp_nil))) ?_
 exact post_frz [39] (post_cell rfl rfl (sm_st (sms_cons (sm_st (sms_cons (sm_frz L) (sms_cons (sm_dat (by simp) fun _ _ => rfl) sms_nil))) (sms_cons (sm_int rfl) sms_nil))) rfl)
theorem rrot_k0 (d : Dk) (ey : Bool) (k y : Nat) (x : Cl) (r : List Cl) (hd : d.l = [] ++ x :: r) (hk : k < x.b.length) (hb : x.b.length < 2 ^ 40) (hn : d.l.length ≤ 12) {D : Dom} :
  Holds C P 66 D 0 (FunPost C 66 0 [.cell 8 34] (.st [dkA false false ⟨[] ++ setB x k y :: r, d.q⟩, .i 0]) []) (cutAt C w_rrot b_rrot [1, 1, 1, 0] (S_rr4 d (jsA ey d.q) 0 k y (d.l.map clA) d.l.length) (after C w_rrot b_rrot [1, 1, 1, 0] [] lf)) := by
 have hl : d.l.length = 0 + (r.length + 1) := by rw [hd]; simp; try omega
 have e : d.l.map clA = clA x :: r.map clA := by rw [hd]; rfl
 rw [e, rrot_C4c0 d ey k y d.l.length x (r.map clA) 0 _]
 refine ⟨(by first | omega | decide | (unfold I64; omega)), by omega, (by first | omega | decide | (unfold I64; omega)), (by first | omega | decide | (unfold I64; omega)), by omega, by omega, ⟨TD2, ⟨rfl, rfl⟩, trivial⟩, ?_⟩
 exact rr_end [] r x k y d.q ey (by rw [hl]; simp; try omega) (by simp; omega) hk rfl rfl rfl rfl
theorem rrot_k1 (d : Dk) (ey : Bool) (k y : Nat) (x0 : Cl) (x : Cl) (r : List Cl) (hd : d.l = [x0] ++ x :: r) (hk : k < x.b.length) (hb : x.b.length < 2 ^ 40) (hn : d.l.length ≤ 12) {D : Dom} :
  Holds C P 66 D 0 (FunPost C 66 0 [.cell 8 34] (.st [dkA false false ⟨[x0] ++ setB x k y :: r, d.q⟩, .i 0]) []) (cutAt C w_rrot b_rrot [1, 1, 1, 0] (S_rr4 d (jsA ey d.q) 1 k y (d.l.map clA) d.l.length) (after C w_rrot b_rrot [1, 1, 1, 0] [] lf)) := by
 have hl : d.l.length = 1 + (r.length + 1) := by rw [hd]; simp; try omega
 have e : d.l.map clA = clA x0 :: clA x :: r.map clA := by rw [hd]; rfl
 rw [e, rrot_C4c1 d ey k y d.l.length x0 x (r.map clA) 0 _]
 refine ⟨(by first | omega | decide | (unfold I64; omega)), by omega, (by first | omega | decide | (unfold I64; omega)), (by first | omega | decide | (unfold I64; omega)), by omega, by omega, ⟨TD2, ⟨rfl, rfl⟩, trivial⟩, ?_⟩
 exact rr_end [x0] r x k y d.q ey (by rw [hl]; simp; try omega) (by simp; omega) hk rfl rfl rfl rfl
theorem rrot_k2 (d : Dk) (ey : Bool) (k y : Nat) (x0 x1 : Cl) (x : Cl) (r : List Cl) (hd : d.l = [x0, x1] ++ x :: r) (hk : k < x.b.length) (hb : x.b.length < 2 ^ 40) (hn : d.l.length ≤ 12) {D : Dom} :
  Holds C P 66 D 0 (FunPost C 66 0 [.cell 8 34] (.st [dkA false false ⟨[x0, x1] ++ setB x k y :: r, d.q⟩, .i 0]) []) (cutAt C w_rrot b_rrot [1, 1, 1, 0] (S_rr4 d (jsA ey d.q) 2 k y (d.l.map clA) d.l.length) (after C w_rrot b_rrot [1, 1, 1, 0] [] lf)) := by
 have hl : d.l.length = 2 + (r.length + 1) := by rw [hd]; simp; try omega
 have e : d.l.map clA = clA x0 :: clA x1 :: clA x :: r.map clA := by rw [hd]; rfl
 rw [e, rrot_C4c2 d ey k y d.l.length x0 x1 x (r.map clA) 0 _]
 refine ⟨(by first | omega | decide | (unfold I64; omega)), by omega, (by first | omega | decide | (unfold I64; omega)), (by first | omega | decide | (unfold I64; omega)), by omega, by omega, ⟨TD2, ⟨rfl, rfl⟩, trivial⟩, ?_⟩
 exact rr_end [x0, x1] r x k y d.q ey (by rw [hl]; simp; try omega) (by simp; omega) hk rfl rfl rfl rfl
theorem rrot_k3 (d : Dk) (ey : Bool) (k y : Nat) (x0 x1 x2 : Cl) (x : Cl) (r : List Cl) (hd : d.l = [x0, x1, x2] ++ x :: r) (hk : k < x.b.length) (hb : x.b.length < 2 ^ 40) (hn : d.l.length ≤ 12) {D : Dom} :
  Holds C P 66 D 0 (FunPost C 66 0 [.cell 8 34] (.st [dkA false false ⟨[x0, x1, x2] ++ setB x k y :: r, d.q⟩, .i 0]) []) (cutAt C w_rrot b_rrot [1, 1, 1, 0] (S_rr4 d (jsA ey d.q) 3 k y (d.l.map clA) d.l.length) (after C w_rrot b_rrot [1, 1, 1, 0] [] lf)) := by
 have hl : d.l.length = 3 + (r.length + 1) := by rw [hd]; simp; try omega
 have e : d.l.map clA = clA x0 :: clA x1 :: clA x2 :: clA x :: r.map clA := by rw [hd]; rfl
 rw [e, rrot_C4c3 d ey k y d.l.length x0 x1 x2 x (r.map clA) 0 _]
 refine ⟨(by first | omega | decide | (unfold I64; omega)), by omega, (by first | omega | decide | (unfold I64; omega)), (by first | omega | decide | (unfold I64; omega)), by omega, by omega, ⟨TD2, ⟨rfl, rfl⟩, trivial⟩, ?_⟩
 exact rr_end [x0, x1, x2] r x k y d.q ey (by rw [hl]; simp; try omega) (by simp; omega) hk rfl rfl rfl rfl
theorem rrot_fun (ex ey : Bool) (d : Dk) (c k : Int) (y : Nat) (hn : d.l.length ≤ 12) (hc4 : c < 4) (hb : ∀ e, e ∈ d.l → e.b.length < 2 ^ 40) : Fun C P F_rrot [dkA ex ey d, .i c, .i k, u8 y] [] (.st [dkA false false (rotD d c k y), .i (rotE d c k)]) [] := by
 refine in_rrot (W := w_rrot) rfl 0 (by simp) rfl (fun id h => absurd rfl h) fun D => ?_
 rw [rrot_A ex ey d c k y 0 _]
 have no : rotOK d c k = false → ∀ {S : St}, look S.tm 8 = some (.ptr 8 []) → look S.hp 8 = some (.c (.st [dkA ex ey d, .i 220])) → FunPost C 66 0 [.cell 8 34] (.st [dkA false false (rotD d c k y), .i (rotE d c k)]) [] .ret S := fun h S g1 g2 => by
  rw [(rot_no h y).1, (rot_no h y).2]
  exact post_cell g1 g2 (sm_st (sms_cons (sm_dk ex ey d) (sms_cons (sm_int rfl) sms_nil))) rfl
 have TW : ((((true = true) ∧ (true = true)) ∧ (((true = true) ∧ (true = true)) ∧ True)) ∧ (((true = true) ∧ (true = true)) ∧ True)) := ⟨TD2, ⟨rfl, rfl⟩, trivial⟩
 refine ⟨fun h1 => ⟨TW, no ?_ rfl rfl⟩, fun h1 => ⟨fun h2 => ⟨TW, no ?_ rfl rfl⟩, fun h2 => ⟨fun h3 => ⟨TW, no ?_ rfl rfl⟩, fun h3 => ?_⟩⟩⟩
 ·simp only [decide_eq_true_eq] at h1
  unfold rotOK; simp; omega
 ·simp only [ge_iff_le, decide_eq_true_eq] at h2
  unfold rotOK; simp; omega
 ·simp only [decide_eq_true_eq] at h3
  unfold rotOK; simp; omega
 simp only [ge_iff_le, decide_eq_false_iff_not] at h1 h2 h3
 refine ⟨(by first | omega | decide | (unfold I64; omega)), fun h4 => ⟨TW, no ?_ rfl rfl⟩, fun h4 => ?_⟩
 ·simp only [ge_iff_le, decide_eq_true_eq] at h4
  unfold rotOK; simp; intro _ _ _
  exact h4
 simp only [ge_iff_le, decide_eq_false_iff_not] at h4
 obtain ⟨cn, rfl⟩ := Int.eq_ofNat_of_zero_le (show 0 ≤ c by omega)
 obtain ⟨kn, rfl⟩ := Int.eq_ofNat_of_zero_le (show 0 ≤ k by omega)
 rw [Int.toNat_natCast] at h4
 have hok : rotOK d (cn : Int) (kn : Int) = true := by
  unfold rotOK; simp
  exact ⟨by omega, by have h4 : ¬ (((clAt d.l cn).b.length : Nat) : Int) ≤ (kn : Int) := h4; show kn < (clAt d.l cn).b.length; omega⟩
 have hc : cn < d.l.length := by omega
 have hk : kn < (clAt d.l cn).b.length := by omega
 have hm : clAt d.l cn ∈ d.l := by rw [clAt_lt hc]; exact List.getElem_mem hc
 have hbl := hb _ hm
 have eD : rotD d (cn : Int) (kn : Int) y = ⟨d.l.set cn (setB (clAt d.l cn) kn y), d.q⟩ := by unfold rotD; rw [if_pos hok]; rfl
 have eE : rotE d (cn : Int) (kn : Int) = 0 := by unfold rotE; rw [if_pos hok]
 rw [eD, eE]
 refine ⟨(by first | omega | decide | (unfold I64; omega)), cut_ok (S2 := S_rr4 d (jsA ey d.q) cn kn y (d.l.map clA) d.l.length) (Ent.trans (ent_of (S' := S_rr4r d (jsA ey d.q) cn kn y) [(4, 4), (8, 8), (39, 39)] rfl (tm_cons rfl (sm_same rfl) (tm_cons rfl (sm_same rfl) (tm_cons rfl (sm_same rfl) (tm_cons rfl (sm_ptr rfl) (tm_cons rfl (sm_ptr rfl) (tm_cons rfl (sm_sl rfl (Nat.zero_add _) (by omega) (by omega) (by simp)) tm_nil)))))) (hp_cons rfl rfl (sm_st (sms_cons (sm_dat (by simp) fun _ _ => rfl) (sms_cons (sm_same rfl) sms_nil))) (hp_cons rfl rfl (sm_same rfl) (hp_cons rfl rfl (sm_arr' (Nat.zero_add _) (fun i hi => by simp [cat])) hp_nil))))
  (ent_st (id := 39) (n := d.l.length) (e := 35) (f := rowC d.l) (fs := d.l.map clA) rfl (by simp) (by omega) (by decide) (map_sizes _) (map_nth _) (map_noid _))) ?_⟩
 obtain ⟨pre, x, post, hp, hpl⟩ : ∃ pre x post, d.l = pre ++ x :: post ∧ pre.length = cn := ⟨d.l.take cn, clAt d.l cn, d.l.drop (cn + 1), by rw [clAt_lt hc, ← List.drop_eq_getElem_cons hc, List.take_append_drop], by rw [List.length_take]; omega⟩
 have hx : clAt d.l cn = x := by rw [hp, clAt_app, if_neg (by omega), hpl, Nat.sub_self]; rfl
 rw [hx] at hk hbl ⊢
 have hset : d.l.set cn (setB x kn y) = pre ++ setB x kn y :: post := by
  rw [hp, List.set_append_right _ _ (by omega), hpl, Nat.sub_self]; rfl
 rw [hset]
 have h12 : pre.length < 4 := by omega
 subst hpl
 match pre, h12 with
 | [], _ => exact rrot_k0 d ey kn y x post hp hk hbl hn
 | [x0], _ => exact rrot_k1 d ey kn y x0 x post hp hk hbl hn
 | [x0, x1], _ => exact rrot_k2 d ey kn y x0 x1 x post hp hk hbl hn
 | [x0, x1, x2], _ => exact rrot_k3 d ey kn y x0 x1 x2 x post hp hk hbl hn
 | _ :: _ :: _ :: _ :: _, h => simp at h; omega
end Go.Bu.W

