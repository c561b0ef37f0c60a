/- SessionSame. -/
import Derived.Test.YtaabgmjgldinpaaK16
import Derived.Test.YtaabgmjgldinpaaK10
namespace Go.Bu.W
def wayW (keep : List Nat) (nt : Nat) (cuts : List Nat) : Way := ⟨crL, byrefI, keep, [51, 120, 149, 38, 44], nt, cuts⟩
def w_sss : Way := wayW [0, 1, 2, 3, 4, 5, 6, 11, 23, 47, 53, 65, 78, 95, 115, 123, 133] 174 [3,29]
def S_s3 (r : Rp) (x : Tri) : St := { tm := [(2, .ptr 2 []), (3, .ptr 3 []), (5, .sb true), (6, .ptr 6 [])], hp := [(2, .c (rpA r)), (3, .c (triA x)), (6, .c (rpA r))], seen := [2, 3, 6] }
def S_s29 (r q : Rp) : St := { tm := [(2, .ptr 2 []), (5, .sb true), (6, .ptr 6 [])], hp := [(2, .c (rpA r)), (6, .c (rpA q))], seen := [2, 6] }

theorem sss_A (r : Rp) (x : Tri) (K : Nat) (Φ : Ex → St → Prop) :
  (Holds C P 174 [] K Φ (vc C w_sss b_sss [] (start [rpA r, triA x] []) lf)) =
  (Fun W.C W.P 10 [] [] (AV.sb true) [] ∧
 (True ∧
 ((W.ShR) ∧
 (∃ (S2 : St), Ent W.C 174 ([] : List Deferred) K (St.mk [(0, (W.rpA r)), (1, (W.triA x)), (2, (AV.ptr 2 [])), (3, (AV.ptr 3 [])), (4, (AV.v (Value.bool false))), (5, (AV.sb true)), (6, (AV.ptr 6 []))] [(2, (Blk.c (W.rpA r))), (3, (Blk.c (W.triA x))), (6, (Blk.c (W.rpA r)))] [6, 3, 2]) S2 ∧ Holds W.C W.P 174 ([] : List Deferred) K Φ (cutAt W.C w_sss b_sss [1, 1, 1, 0, 0] S2 (after W.C w_sss b_sss [1, 1, 1, 0, 0] [] lf)))))) := by kernel_rfl
theorem sss_C3 (r : Rp) (x : Tri) (K : Nat) (Φ : Ex → St → Prop) :
  (Holds C P 174 [] K Φ (cutAt C w_sss b_sss [1, 1, 1, 0, 0] (S_s3 r x) (after C w_sss b_sss [1, 1, 1, 0, 0] [] lf))) =
  ((((0 : Int) ≤ (0 : Int)) ∧ ((0 : Int) < (3 : Int))) ∧
 (((8 : Int) ≠ (0 : Int)) ∧
 (((((((W.tri x 0) % 8) : Nat) : Int) == (0 : Int)) = true →
 (∃ (S2 : St), Ent W.C 174 ([] : List Deferred) K (St.mk [(2, (AV.ptr 2 [])), (3, (AV.ptr 3 [])), (5, (AV.sb true)), (6, (AV.ptr 6 [])), (11, (AV.v (Value.int IntKind.u8 ((((W.tri x 0) % 8) : Nat) : Int)))), (47, (AV.v (Value.bool true)))] [(2, (Blk.c (W.rpA r))), (3, (Blk.c (W.triA x))), (6, (Blk.c (AV.st [(AV.i (IntKind.wrap IntKind.i64 ((W.Rp.e r) + (1 : Int)))), (AV.i (W.Rp.n r)), (W.dS false (W.Rp.names r)), (W.dPc false (W.Rp.body r)), (W.ndA (W.Rp.nd r))])))] [2, 3, 6]) S2 ∧ Holds W.C W.P 174 ([] : List Deferred) K Φ (cutAt W.C w_sss b_sss [1, 1, 1, 1, 0] S2 (after W.C w_sss b_sss [1, 1, 1, 1, 0] [] lf)))) ∧
 ((((((W.tri x 0) % 8) : Nat) : Int) == (0 : Int)) = false →
 (((((((W.tri x 0) % 8) : Nat) : Int) == (1 : Int)) = true →
  ((0 = 0) ∧
   (((0 = 0) ∨ (0 < (List.length (W.Rp.names r)))) ∧
   ((((0 + (List.length (W.Rp.names r))) * 16) ≤ 140737488355328) ∧
   (((((0 + (List.length (W.Rp.names r))) + 1) * 16) ≤ 140737488355328) ∧
   (∃ (S2 : St), Ent W.C 174 ([] : List Deferred) K (St.mk [(2, (AV.ptr 2 [])), (3, (AV.ptr 3 [])), (5, (AV.sb true)), (6, (AV.ptr 6 [])), (11, (AV.v (Value.int IntKind.u8 ((((W.tri x 0) % 8) : Nat) : Int)))), (47, (AV.v (Value.bool false))), (53, (AV.v (Value.bool true)))] [(2, (Blk.c (W.rpA r))), (3, (Blk.c (W.triA x))), (6, (Blk.c (AV.st [(AV.i (W.Rp.e r)), (AV.i (W.Rp.n r)), (AV.sl 63 [] 0 ((0 + (List.length (W.Rp.names r))) + 1) ((0 + (List.length (W.Rp.names r))) + 1) false 1), (W.dPc false (W.Rp.body r)), (W.ndA (W.Rp.nd r))]))), (55, (Blk.c (AV.st []))), (62, (Blk.c (AV.st [(W.strA (ByteArray.mk (List.toArray [(97 : UInt8)])))]))), (63, (Blk.c (AV.arr ((0 + (List.length (W.Rp.names r))) + 1) 1 (cat (0 + (List.length (W.Rp.names r))) (fun (i : Nat) => (W.strA (W.sAt (W.Rp.names r) (0 + i)))) (fun (i : Nat) => (nthD [(W.strA (ByteArray.mk (List.toArray [(97 : UInt8)])))] (0 + i) (AV.v (Value.tuple (List.toArray [])))))))))] [63, 62, 58, 55, 2, 3, 6]) S2 ∧ Holds W.C W.P 174 ([] : List Deferred) K Φ (cutAt W.C w_sss b_sss [1, 1, 1, 1, 0] S2 (after W.C w_sss b_sss [1, 1, 1, 1, 0] [] lf)))))))) ∧
  ((((((W.tri x 0) % 8) : Nat) : Int) == (1 : Int)) = false →
  (((((((W.tri x 0) % 8) : Nat) : Int) == (2 : Int)) = true →
   ((0 = 0) ∧
    (((0 = 0) ∨ (0 < (List.length (W.Rp.body r)))) ∧
    ((((0 + (List.length (W.Rp.body r))) * 24) ≤ 140737488355328) ∧
    (((((0 + (List.length (W.Rp.body r))) + 1) * 24) ≤ 140737488355328) ∧
    (∃ (S2 : St), Ent W.C 174 ([] : List Deferred) K (St.mk [(2, (AV.ptr 2 [])), (3, (AV.ptr 3 [])), (5, (AV.sb true)), (6, (AV.ptr 6 [])), (11, (AV.v (Value.int IntKind.u8 ((((W.tri x 0) % 8) : Nat) : Int)))), (47, (AV.v (Value.bool false))), (53, (AV.v (Value.bool false))), (65, (AV.v (Value.bool true)))] [(2, (Blk.c (W.rpA r))), (3, (Blk.c (W.triA x))), (6, (Blk.c (AV.st [(AV.i (W.Rp.e r)), (AV.i (W.Rp.n r)), (W.dS false (W.Rp.names r)), (AV.sl 76 [] 0 ((0 + (List.length (W.Rp.body r))) + 1) ((0 + (List.length (W.Rp.body r))) + 1) false 3), (W.ndA (W.Rp.nd r))]))), (67, (Blk.c (AV.st []))), (75, (Blk.c (AV.st [(AV.st [(AV.i (0 : Int)), (AV.i (0 : Int)), (AV.i (1 : Int))])]))), (76, (Blk.c (AV.arr ((0 + (List.length (W.Rp.body r))) + 1) 3 (cat (0 + (List.length (W.Rp.body r))) (fun (i : Nat) => (W.pcA (W.pcAt (W.Rp.body r) (0 + i)))) (fun (i : Nat) => (nthD [(AV.st [(AV.i (0 : Int)), (AV.i (0 : Int)), (AV.i (1 : Int))])] (0 + i) (AV.v (Value.tuple (List.toArray [])))))))))] [76, 75, 70, 67, 2, 3, 6]) S2 ∧ Holds W.C W.P 174 ([] : List Deferred) K Φ (cutAt W.C w_sss b_sss [1, 1, 1, 1, 0] S2 (after W.C w_sss b_sss [1, 1, 1, 1, 0] [] lf)))))))) ∧
   ((((((W.tri x 0) % 8) : Nat) : Int) == (2 : Int)) = false →
   (((((((W.tri x 0) % 8) : Nat) : Int) == (3 : Int)) = true →
    ((0 = 0) ∧
     (((0 = 0) ∨ (0 < (List.length (W.Nd.acl (W.Rp.nd r))))) ∧
     ((((0 + (List.length (W.Nd.acl (W.Rp.nd r)))) * 40) ≤ 140737488355328) ∧
     (((((0 + (List.length (W.Nd.acl (W.Rp.nd r)))) + 1) * 40) ≤ 140737488355328) ∧
     (∃ (S2 : St), Ent W.C 174 ([] : List Deferred) K (St.mk [(2, (AV.ptr 2 [])), (3, (AV.ptr 3 [])), (5, (AV.sb true)), (6, (AV.ptr 6 [])), (11, (AV.v (Value.int IntKind.u8 ((((W.tri x 0) % 8) : Nat) : Int)))), (47, (AV.v (Value.bool false))), (53, (AV.v (Value.bool false))), (65, (AV.v (Value.bool false))), (78, (AV.v (Value.bool true)))] [(2, (Blk.c (W.rpA r))), (3, (Blk.c (W.triA x))), (6, (Blk.c (AV.st [(AV.i (W.Rp.e r)), (AV.i (W.Rp.n r)), (W.dS false (W.Rp.names r)), (W.dPc false (W.Rp.body r)), (AV.st [(AV.i (W.Nd.id (W.Rp.nd r))), (AV.i (W.Nd.kind (W.Rp.nd r))), (AV.i (W.Nd.owner (W.Rp.nd r))), (AV.sl 92 [] 0 ((0 + (List.length (W.Nd.acl (W.Rp.nd r)))) + 1) ((0 + (List.length (W.Nd.acl (W.Rp.nd r)))) + 1) false 5), (W.dEn false (W.Nd.list (W.Rp.nd r))), (W.dPc false (W.Nd.body (W.Rp.nd r))), (AV.i (W.Nd.links (W.Rp.nd r))), (AV.i (W.Nd.ver (W.Rp.nd r)))])]))), (80, (Blk.c (AV.st []))), (91, (Blk.c (AV.st [(AV.st [(AV.i (0 : Int)), (AV.v (Value.bool false)), (AV.i (0 : Int)), (AV.i (0 : Int)), (AV.v (Value.bool false))])]))), (92, (Blk.c (AV.arr ((0 + (List.length (W.Nd.acl (W.Rp.nd r)))) + 1) 5 (cat (0 + (List.length (W.Nd.acl (W.Rp.nd r)))) (fun (i : Nat) => (W.acA (W.acAt (W.Nd.acl (W.Rp.nd r)) (0 + i)))) (fun (i : Nat) => (nthD [(AV.st [(AV.i (0 : Int)), (AV.v (Value.bool false)), (AV.i (0 : Int)), (AV.i (0 : Int)), (AV.v (Value.bool false))])] (0 + i) (AV.v (Value.tuple (List.toArray [])))))))))] [92, 91, 84, 80, 2, 3, 6]) S2 ∧ Holds W.C W.P 174 ([] : List Deferred) K Φ (cutAt W.C w_sss b_sss [1, 1, 1, 1, 0] S2 (after W.C w_sss b_sss [1, 1, 1, 1, 0] [] lf)))))))) ∧
    ((((((W.tri x 0) % 8) : Nat) : Int) == (3 : Int)) = false →
    (((((((W.tri x 0) % 8) : Nat) : Int) == (4 : Int)) = true →
     ((0 = 0) ∧
      (((0 = 0) ∨ (0 < (List.length (W.Nd.list (W.Rp.nd r))))) ∧
      ((((0 + (List.length (W.Nd.list (W.Rp.nd r)))) * 24) ≤ 140737488355328) ∧
      ((((0 : Int) ≤ (1 : Int)) ∧ ((1 : Int) < (3 : Int))) ∧
      ((I64 (((W.tri x 1) : Nat) : Int)) ∧
      (((((0 + (List.length (W.Nd.list (W.Rp.nd r)))) + 1) * 24) ≤ 140737488355328) ∧
      (∃ (S2 : St), Ent W.C 174 ([] : List Deferred) K (St.mk [(2, (AV.ptr 2 [])), (3, (AV.ptr 3 [])), (5, (AV.sb true)), (6, (AV.ptr 6 [])), (11, (AV.v (Value.int IntKind.u8 ((((W.tri x 0) % 8) : Nat) : Int)))), (47, (AV.v (Value.bool false))), (53, (AV.v (Value.bool false))), (65, (AV.v (Value.bool false))), (78, (AV.v (Value.bool false))), (95, (AV.v (Value.bool true)))] [(2, (Blk.c (W.rpA r))), (3, (Blk.c (W.triA x))), (6, (Blk.c (AV.st [(AV.i (W.Rp.e r)), (AV.i (W.Rp.n r)), (W.dS false (W.Rp.names r)), (W.dPc false (W.Rp.body r)), (AV.st [(AV.i (W.Nd.id (W.Rp.nd r))), (AV.i (W.Nd.kind (W.Rp.nd r))), (AV.i (W.Nd.owner (W.Rp.nd r))), (W.dAc false (W.Nd.acl (W.Rp.nd r))), (AV.sl 112 [] 0 ((0 + (List.length (W.Nd.list (W.Rp.nd r)))) + 1) ((0 + (List.length (W.Nd.list (W.Rp.nd r)))) + 1) false 2), (W.dPc false (W.Nd.body (W.Rp.nd r))), (AV.i (W.Nd.links (W.Rp.nd r))), (AV.i (W.Nd.ver (W.Rp.nd r)))])]))), (97, (Blk.c (AV.st []))), (111, (Blk.c (AV.st [(AV.st [(W.strA ByteArray.empty), (AV.i (((W.tri x 1) : Nat) : Int))])]))), (112, (Blk.c (AV.arr ((0 + (List.length (W.Nd.list (W.Rp.nd r)))) + 1) 2 (cat (0 + (List.length (W.Nd.list (W.Rp.nd r)))) (fun (i : Nat) => (W.enA (W.enAt (W.Nd.list (W.Rp.nd r)) (0 + i)))) (fun (i : Nat) => (nthD [(AV.st [(W.strA ByteArray.empty), (AV.i (((W.tri x 1) : Nat) : Int))])] (0 + i) (AV.v (Value.tuple (List.toArray [])))))))))] [112, 111, 101, 97, 2, 3, 6]) S2 ∧ Holds W.C W.P 174 ([] : List Deferred) K Φ (cutAt W.C w_sss b_sss [1, 1, 1, 1, 0] S2 (after W.C w_sss b_sss [1, 1, 1, 1, 0] [] lf)))))))))) ∧
     ((((((W.tri x 0) % 8) : Nat) : Int) == (4 : Int)) = false →
     (((((((W.tri x 0) % 8) : Nat) : Int) == (5 : Int)) = true →
      (∃ (S2 : St), Ent W.C 174 ([] : List Deferred) K (St.mk [(2, (AV.ptr 2 [])), (3, (AV.ptr 3 [])), (5, (AV.sb true)), (6, (AV.ptr 6 [])), (11, (AV.v (Value.int IntKind.u8 ((((W.tri x 0) % 8) : Nat) : Int)))), (47, (AV.v (Value.bool false))), (53, (AV.v (Value.bool false))), (65, (AV.v (Value.bool false))), (78, (AV.v (Value.bool false))), (95, (AV.v (Value.bool false))), (115, (AV.v (Value.bool true)))] [(2, (Blk.c (W.rpA r))), (3, (Blk.c (W.triA x))), (6, (Blk.c (AV.st [(AV.i (W.Rp.e r)), (AV.i (W.Rp.n r)), (W.dS false (W.Rp.names r)), (W.dPc false (W.Rp.body r)), (AV.st [(AV.i (W.Nd.id (W.Rp.nd r))), (AV.i (W.Nd.kind (W.Rp.nd r))), (AV.i (W.Nd.owner (W.Rp.nd r))), (W.dAc false (W.Nd.acl (W.Rp.nd r))), (W.dEn false (W.Nd.list (W.Rp.nd r))), (W.dPc false (W.Nd.body (W.Rp.nd r))), (AV.i (IntKind.wrap IntKind.i64 ((W.Nd.links (W.Rp.nd r)) + (1 : Int)))), (AV.i (W.Nd.ver (W.Rp.nd r)))])])))] [2, 3, 6]) S2 ∧ Holds W.C W.P 174 ([] : List Deferred) K Φ (cutAt W.C w_sss b_sss [1, 1, 1, 1, 0] S2 (after W.C w_sss b_sss [1, 1, 1, 1, 0] [] lf)))) ∧
      ((((((W.tri x 0) % 8) : Nat) : Int) == (5 : Int)) = false →
      (((((((W.tri x 0) % 8) : Nat) : Int) == (6 : Int)) = true →
       ((0 = 0) ∧
        (((0 = 0) ∨ (0 < (List.length (W.Rp.names r)))) ∧
        ((((0 + (List.length (W.Rp.names r))) * 16) ≤ 140737488355328) ∧
        (((decide ((((0 + (List.length (W.Rp.names r))) : Nat) : Int) > (0 : Int))) = true →
        ((((0 : Int) ≤ (1 : Int)) ∧ ((1 : Int) < (3 : Int))) ∧
         ((I64 (((W.tri x 1) : Nat) : Int)) ∧
         (((((0 + (List.length (W.Rp.names r))) : Nat) : Int) ≠ (0 : Int)) ∧
         ((((0 : Int) ≤ ((((W.tri x 1) % (0 + (List.length (W.Rp.names r)))) : Nat) : Int)) ∧ (((((W.tri x 1) % (0 + (List.length (W.Rp.names r)))) : Nat) : Int) < (((0 + (List.length (W.Rp.names r))) : Nat) : Int))) ∧
         ((((((ByteArray.size (W.sAt (W.Rp.names r) (0 + ((W.tri x 1) % (0 + (List.length (W.Rp.names r))))))) + 1) : Nat) : Int) ≤ (9223372036854775807 : Int)) ∧
         ((((0 : Int) ≤ ((((W.tri x 1) % (0 + (List.length (W.Rp.names r)))) : Nat) : Int)) ∧ (((((W.tri x 1) % (0 + (List.length (W.Rp.names r)))) : Nat) : Int) < (((0 + (List.length (W.Rp.names r))) : Nat) : Int))) ∧
         (∃ (S2 : St), Ent W.C 174 ([] : List Deferred) K (St.mk [(2, (AV.ptr 2 [])), (3, (AV.ptr 3 [])), (5, (AV.sb true)), (6, (AV.ptr 6 [])), (11, (AV.v (Value.int IntKind.u8 ((((W.tri x 0) % 8) : Nat) : Int)))), (47, (AV.v (Value.bool false))), (53, (AV.v (Value.bool false))), (65, (AV.v (Value.bool false))), (78, (AV.v (Value.bool false))), (95, (AV.v (Value.bool false))), (115, (AV.v (Value.bool false))), (123, (AV.v (Value.bool true))), (133, (AV.v (Value.bool true)))] [(2, (Blk.c (W.rpA r))), (3, (Blk.c (W.triA x))), (6, (Blk.c (AV.st [(AV.i (W.Rp.e r)), (AV.i (W.Rp.n r)), (AV.sl 128 [] 0 (0 + (List.length (W.Rp.names r))) (0 + (List.length (W.Rp.names r))) false 1), (W.dPc false (W.Rp.body r)), (W.ndA (W.Rp.nd r))]))), (125, (Blk.c (AV.st []))), (128, (Blk.c (AV.arr (0 + (List.length (W.Rp.names r))) 1 (fun (j : Nat) => (if (j = (0 + ((W.tri x 1) % (0 + (List.length (W.Rp.names r)))))) then (W.strA ((W.sAt (W.Rp.names r) (0 + ((W.tri x 1) % (0 + (List.length (W.Rp.names r)))))) ++ (ByteArray.mk (List.toArray [(120 : UInt8)])))) else (W.strA (W.sAt (W.Rp.names r) j)))))))] [128, 125, 2, 3, 6]) S2 ∧ Holds W.C W.P 174 ([] : List Deferred) K Φ (cutAt W.C w_sss b_sss [1, 1, 1, 1, 0] S2 (after W.C w_sss b_sss [1, 1, 1, 1, 0] [] lf)))))))))) ∧
        ((decide ((((0 + (List.length (W.Rp.names r))) : Nat) : Int) > (0 : Int))) = false →
        (∃ (S2 : St), Ent W.C 174 ([] : List Deferred) K (St.mk [(2, (AV.ptr 2 [])), (3, (AV.ptr 3 [])), (5, (AV.sb true)), (6, (AV.ptr 6 [])), (11, (AV.v (Value.int IntKind.u8 ((((W.tri x 0) % 8) : Nat) : Int)))), (47, (AV.v (Value.bool false))), (53, (AV.v (Value.bool false))), (65, (AV.v (Value.bool false))), (78, (AV.v (Value.bool false))), (95, (AV.v (Value.bool false))), (115, (AV.v (Value.bool false))), (123, (AV.v (Value.bool true))), (133, (AV.v (Value.bool false)))] [(2, (Blk.c (W.rpA r))), (3, (Blk.c (W.triA x))), (6, (Blk.c (AV.st [(AV.i (W.Rp.e r)), (AV.i (IntKind.wrap IntKind.i64 ((W.Rp.n r) + (1 : Int)))), (AV.sl 128 [] 0 (0 + (List.length (W.Rp.names r))) (0 + (List.length (W.Rp.names r))) false 1), (W.dPc false (W.Rp.body r)), (W.ndA (W.Rp.nd r))]))), (125, (Blk.c (AV.st []))), (128, (Blk.c (AV.arr (0 + (List.length (W.Rp.names r))) 1 (cat 0 (fun (i : Nat) => (AV.v (Value.tuple (List.toArray [])))) (fun (i : Nat) => (W.strA (W.sAt (W.Rp.names r) i)))))))] [128, 125, 2, 3, 6]) S2 ∧ Holds W.C W.P 174 ([] : List Deferred) K Φ (cutAt W.C w_sss b_sss [1, 1, 1, 1, 0] S2 (after W.C w_sss b_sss [1, 1, 1, 1, 0] [] lf))))))))) ∧
       ((((((W.tri x 0) % 8) : Nat) : Int) == (6 : Int)) = false →
       ((0 = 0) ∧
        (((0 = 0) ∨ (0 < (List.length (W.Nd.body (W.Rp.nd r))))) ∧
        ((((0 + (List.length (W.Nd.body (W.Rp.nd r)))) * 24) ≤ 140737488355328) ∧
        (((decide ((((0 + (List.length (W.Nd.body (W.Rp.nd r)))) : Nat) : Int) > (0 : Int))) = true →
        ((((0 : Int) ≤ (1 : Int)) ∧ ((1 : Int) < (3 : Int))) ∧
         ((I64 (((W.tri x 1) : Nat) : Int)) ∧
         (((((0 + (List.length (W.Nd.body (W.Rp.nd r)))) : Nat) : Int) ≠ (0 : Int)) ∧
         ((((0 : Int) ≤ ((((W.tri x 1) % (0 + (List.length (W.Nd.body (W.Rp.nd r))))) : Nat) : Int)) ∧ (((((W.tri x 1) % (0 + (List.length (W.Nd.body (W.Rp.nd r))))) : Nat) : Int) < (((0 + (List.length (W.Nd.body (W.Rp.nd r)))) : Nat) : Int))) ∧
         ((((0 : Int) ≤ ((((W.tri x 1) % (0 + (List.length (W.Nd.body (W.Rp.nd r))))) : Nat) : Int)) ∧ (((((W.tri x 1) % (0 + (List.length (W.Nd.body (W.Rp.nd r))))) : Nat) : Int) < (((0 + (List.length (W.Nd.body (W.Rp.nd r)))) : Nat) : Int))) ∧
         (∃ (S2 : St), Ent W.C 174 ([] : List Deferred) K (St.mk [(2, (AV.ptr 2 [])), (3, (AV.ptr 3 [])), (5, (AV.sb true)), (6, (AV.ptr 6 [])), (11, (AV.v (Value.int IntKind.u8 ((((W.tri x 0) % 8) : Nat) : Int)))), (23, (AV.v (Value.bool true))), (47, (AV.v (Value.bool false))), (53, (AV.v (Value.bool false))), (65, (AV.v (Value.bool false))), (78, (AV.v (Value.bool false))), (95, (AV.v (Value.bool false))), (115, (AV.v (Value.bool false))), (123, (AV.v (Value.bool false)))] [(2, (Blk.c (W.rpA r))), (3, (Blk.c (W.triA x))), (6, (Blk.c (AV.st [(AV.i (W.Rp.e r)), (AV.i (W.Rp.n r)), (W.dS false (W.Rp.names r)), (W.dPc false (W.Rp.body r)), (AV.st [(AV.i (W.Nd.id (W.Rp.nd r))), (AV.i (W.Nd.kind (W.Rp.nd r))), (AV.i (W.Nd.owner (W.Rp.nd r))), (W.dAc false (W.Nd.acl (W.Rp.nd r))), (W.dEn false (W.Nd.list (W.Rp.nd r))), (AV.sl 16 [] 0 (0 + (List.length (W.Nd.body (W.Rp.nd r)))) (0 + (List.length (W.Nd.body (W.Rp.nd r)))) false 3), (AV.i (W.Nd.links (W.Rp.nd r))), (AV.i (W.Nd.ver (W.Rp.nd r)))])]))), (12, (Blk.c (AV.st []))), (16, (Blk.c (AV.arr (0 + (List.length (W.Nd.body (W.Rp.nd r)))) 3 (fun (j : Nat) => (if (j = (0 + ((W.tri x 1) % (0 + (List.length (W.Nd.body (W.Rp.nd r))))))) then (AV.st [(AV.i (Prod.fst (W.pcAt (W.Nd.body (W.Rp.nd r)) (0 + ((W.tri x 1) % (0 + (List.length (W.Nd.body (W.Rp.nd r))))))))), (AV.i (IntKind.wrap IntKind.i64 ((Prod.fst (Prod.snd (W.pcAt (W.Nd.body (W.Rp.nd r)) (0 + ((W.tri x 1) % (0 + (List.length (W.Nd.body (W.Rp.nd r))))))))) + (1 : Int)))), (AV.i (Prod.snd (Prod.snd (W.pcAt (W.Nd.body (W.Rp.nd r)) (0 + ((W.tri x 1) % (0 + (List.length (W.Nd.body (W.Rp.nd r))))))))))]) else (W.pcA (W.pcAt (W.Nd.body (W.Rp.nd r)) j)))))))] [16, 12, 2, 3, 6]) S2 ∧ Holds W.C W.P 174 ([] : List Deferred) K Φ (cutAt W.C w_sss b_sss [1, 1, 1, 1, 0] S2 (after W.C w_sss b_sss [1, 1, 1, 1, 0] [] lf))))))))) ∧
        ((decide ((((0 + (List.length (W.Nd.body (W.Rp.nd r)))) : Nat) : Int) > (0 : Int))) = false →
        (∃ (S2 : St), Ent W.C 174 ([] : List Deferred) K (St.mk [(2, (AV.ptr 2 [])), (3, (AV.ptr 3 [])), (5, (AV.sb true)), (6, (AV.ptr 6 [])), (11, (AV.v (Value.int IntKind.u8 ((((W.tri x 0) % 8) : Nat) : Int)))), (23, (AV.v (Value.bool false))), (47, (AV.v (Value.bool false))), (53, (AV.v (Value.bool false))), (65, (AV.v (Value.bool false))), (78, (AV.v (Value.bool false))), (95, (AV.v (Value.bool false))), (115, (AV.v (Value.bool false))), (123, (AV.v (Value.bool false)))] [(2, (Blk.c (W.rpA r))), (3, (Blk.c (W.triA x))), (6, (Blk.c (AV.st [(AV.i (W.Rp.e r)), (AV.i (W.Rp.n r)), (W.dS false (W.Rp.names r)), (W.dPc false (W.Rp.body r)), (AV.st [(AV.i (W.Nd.id (W.Rp.nd r))), (AV.i (W.Nd.kind (W.Rp.nd r))), (AV.i (W.Nd.owner (W.Rp.nd r))), (W.dAc false (W.Nd.acl (W.Rp.nd r))), (W.dEn false (W.Nd.list (W.Rp.nd r))), (AV.sl 16 [] 0 (0 + (List.length (W.Nd.body (W.Rp.nd r)))) (0 + (List.length (W.Nd.body (W.Rp.nd r)))) false 3), (AV.i (W.Nd.links (W.Rp.nd r))), (AV.i (IntKind.wrap IntKind.i64 ((W.Nd.ver (W.Rp.nd r)) - (1 : Int))))])]))), (12, (Blk.c (AV.st []))), (16, (Blk.c (AV.arr (0 + (List.length (W.Nd.body (W.Rp.nd r)))) 3 (cat 0 (fun (i : Nat) => (AV.v (Value.tuple (List.toArray [])))) (fun (i : Nat) => (W.pcA (W.pcAt (W.Nd.body (W.Rp.nd r)) i)))))))] [16, 12, 2, 3, 6]) S2 ∧ Holds W.C W.P 174 ([] : List Deferred) K Φ (cutAt W.C w_sss b_sss [1, 1, 1, 1, 0] S2 (after W.C w_sss b_sss [1, 1, 1, 1, 0] [] lf)))))))))))))))))))))))) := by kernel_rfl
theorem sss_C29 (r q : Rp) (K : Nat) (Φ : Ex → St → Prop) :
  (Holds C P 174 [] K Φ (cutAt C w_sss b_sss [1, 1, 1, 1, 0] (S_s29 r q) (after C w_sss b_sss [1, 1, 1, 1, 0] [] lf))) =
  (Fun W.C W.P 17 [(W.rpA r), (W.rpA r)] [] (AV.sb (W.eqR (W.toRp (W.rpA r)) (W.toRp (W.rpA r)))) [] ∧
 (True ∧
 (((W.eqR (W.toRp (W.rpA r)) (W.toRp (W.rpA r))) = true →
 (Fun W.C W.P 17 [(W.rpA r), (W.rpA q)] [] (AV.sb (W.eqR (W.toRp (W.rpA r)) (W.toRp (W.rpA q)))) [] ∧
  (True ∧
  (((! (W.eqR (W.toRp (W.rpA r)) (W.toRp (W.rpA q)))) = true →
  (Fun W.C W.P 17 [(W.rpA q), (W.rpA r)] [] (AV.sb (W.eqR (W.toRp (W.rpA q)) (W.toRp (W.rpA r)))) [] ∧
   (True ∧
   (((! (W.eqR (W.toRp (W.rpA q)) (W.toRp (W.rpA r)))) = true →
   (Fun W.C W.P 17 [(W.rpA q), (W.rpA q)] [] (AV.sb (W.eqR (W.toRp (W.rpA q)) (W.toRp (W.rpA q)))) [] ∧
    (True ∧
    (((W.eqR (W.toRp (W.rpA q)) (W.toRp (W.rpA q))) = true →
    (Φ Ex.ret (St.mk [(2, (AV.ptr 2 [])), (4, (AV.sb true)), (5, (AV.sb true)), (6, (AV.ptr 6 []))] [(2, (Blk.c (W.rpA r))), (6, (Blk.c (W.rpA q)))] [2, 6]))) ∧
    ((W.eqR (W.toRp (W.rpA q)) (W.toRp (W.rpA q))) = false →
    (Φ Ex.ret (St.mk [(2, (AV.ptr 2 [])), (4, (AV.v (Value.bool false))), (5, (AV.sb true)), (6, (AV.ptr 6 []))] [(2, (Blk.c (W.rpA r))), (6, (Blk.c (W.rpA q)))] [2, 6]))))))) ∧
   ((! (W.eqR (W.toRp (W.rpA q)) (W.toRp (W.rpA r)))) = false →
   (Φ Ex.ret (St.mk [(2, (AV.ptr 2 [])), (4, (AV.v (Value.bool false))), (5, (AV.sb true)), (6, (AV.ptr 6 []))] [(2, (Blk.c (W.rpA r))), (6, (Blk.c (W.rpA q)))] [2, 6]))))))) ∧
  ((! (W.eqR (W.toRp (W.rpA r)) (W.toRp (W.rpA q)))) = false →
  (Φ Ex.ret (St.mk [(2, (AV.ptr 2 [])), (4, (AV.v (Value.bool false))), (5, (AV.sb true)), (6, (AV.ptr 6 []))] [(2, (Blk.c (W.rpA r))), (6, (Blk.c (W.rpA q)))] [2, 6]))))))) ∧
 ((W.eqR (W.toRp (W.rpA r)) (W.toRp (W.rpA r))) = false →
 (Φ Ex.ret (St.mk [(2, (AV.ptr 2 [])), (4, (AV.v (Value.bool false))), (5, (AV.sb true)), (6, (AV.ptr 6 []))] [(2, (Blk.c (W.rpA r))), (6, (Blk.c (W.rpA q)))] [2, 6])))))) := by kernel_rfl
/-- What is read is of bounded bulk. -/
def RpB (r : Rp) : Prop := r.names.length * 16 ≤ reachBytes ∧ (∀ s, s ∈ r.names → s.size ≤ reachBytes) ∧ r.body.length * 24 ≤ reachBytes ∧ r.nd.acl.length * 40 ≤ reachBytes ∧ r.nd.list.length * 24 ≤ reachBytes ∧ r.nd.body.length * 24 ≤ reachBytes
theorem sized_ls {β : Type} {n t s b : Nat} {x : AV} (hd : (C.tt t).d = .slice s) (hb : (C.tt s).bytes = b) (d0 : β) (A : β → AV) (Q : β → Prop) (each : ∀ y, TypedB C.tt reachBytes n s y → ∃ p, Q p ∧ sim (fun _ => none) y (A p)) (h : TypedB C.tt reachBytes (n + 1) t x) :
    ∃ (l : List β), l.length * b ≤ reachBytes ∧ (∀ p, p ∈ l → Q p) ∧ simR some x (.dat l.length false (C.tt s).size (fun i => A (l.getD i d0))) := by
  simp only [TypedB, hd] at h
  obtain ⟨m, ex, f, rfl, h1, h2, h3⟩ := h
  have ch : ∀ i, ∃ p, i < m → Q p ∧ sim (fun _ => none) (f i) (A p) := fun i => by
    by_cases hi : i < m
    · obtain ⟨p, hp⟩ := each _ (h3 i hi)
      exact ⟨p, fun _ => hp⟩
    · exact ⟨d0, fun h => absurd h hi⟩
  obtain ⟨q, hq0⟩ : ∃ q : Nat → β, q = fun i => Classical.choose (ch i) := ⟨_, rfl⟩
  have hq : ∀ i, i < m → Q (q i) ∧ sim (fun _ => none) (f i) (A (q i)) := fun i hi => by rw [hq0]; exact Classical.choose_spec (ch i) hi
  have hget : ∀ i, i < m → ((List.range m).map q).getD i d0 = q i := fun i hi => by simp [List.getD_eq_getElem?_getD, hi]
  rw [hb] at h2
  refine ⟨(List.range m).map q, by simpa using h2, fun p hp => ?_, .inr ⟨by simp, by simp, .inr rfl, fun i hi => .inr ?_⟩⟩
  · obtain ⟨i, hi, rfl⟩ := List.mem_map.1 hp
    exact (hq i (List.mem_range.1 hi)).1
  · dsimp only
    rw [hget i hi]; exact (hq i hi).2
theorem sized_rp {x : AV} (h : TypedB C.tt reachBytes 6 39 x) : ∃ p : Rp, RpB p ∧ simR some x (rpA p) := by
  obtain ⟨xs, rfl, hl, hg⟩ : ∃ xs, x = .st xs ∧ xs.length = 5 ∧ ∀ i t o y, nth? [(26, 0), (3, 1), (32, 2), (33, 3), (37, 4)] i = some (t, o) → nth? xs i = some y → TypedB C.tt reachBytes 5 t y := h
  match xs, hl with
  | [a, b, c, d, e], _ =>
    obtain ⟨i0, rfl, _⟩ := typed_i64 rfl (hg 0 26 0 a rfl rfl).typed
    obtain ⟨i1, rfl, _⟩ := typed_i64 rfl (hg 1 3 1 b rfl rfl).typed
    obtain ⟨l2, h2, q2, s2⟩ := sized_ls (s := 9) (b := 16) rfl rfl ByteArray.empty strA (fun s => s.size ≤ reachBytes) (fun y hy => (by
      obtain ⟨s, rfl, _, hs⟩ : ∃ s : ByteArray, y = .v (.string s) ∧ s.size ≤ maxLen ∧ s.size ≤ reachBytes := hy
      exact ⟨s, hs, rfl⟩)) (hg 2 32 2 c rfl rfl)
    obtain ⟨l3, h3, _, s3⟩ := sized_ls (s := 53) (b := 24) rfl rfl (0, 0, 0) pcA (fun _ => True) (fun _ hy => typed_pc hy.typed) (hg 3 33 3 d rfl rfl)
    obtain ⟨ys, rfl, hl', hg'⟩ : ∃ xs, e = .st xs ∧ xs.length = 8 ∧ ∀ i t o y, nth? [(3, 0), (3, 1), (3, 2), (34, 3), (35, 4), (33, 5), (3, 6), (3, 7)] i = some (t, o) → nth? xs i = some y → TypedB C.tt reachBytes 4 t y := hg 4 37 4 e rfl rfl
    match ys, hl' with
    | [a, b, c, d, e, f, g, k], _ =>
      obtain ⟨j0, rfl, _⟩ := typed_i64 rfl (hg' 0 3 0 a rfl rfl).typed
      obtain ⟨j1, rfl, _⟩ := typed_i64 rfl (hg' 1 3 1 b rfl rfl).typed
      obtain ⟨j2, rfl, _⟩ := typed_i64 rfl (hg' 2 3 2 c rfl rfl).typed
      obtain ⟨m3, g3, _, t3⟩ := sized_ls (s := 55) (b := 40) rfl rfl (0, false, 0, 0, false) acA (fun _ => True) (fun _ hy => typed_ac hy.typed) (hg' 3 34 3 d rfl rfl)
      obtain ⟨m4, g4, _, t4⟩ := sized_ls (s := 57) (b := 24) rfl rfl (ByteArray.empty, 0) enA (fun _ => True) (fun _ hy => typed_en hy.typed) (hg' 4 35 4 e rfl rfl)
      obtain ⟨m5, g5, _, t5⟩ := sized_ls (s := 53) (b := 24) rfl rfl (0, 0, 0) pcA (fun _ => True) (fun _ hy => typed_pc hy.typed) (hg' 5 33 5 f rfl rfl)
      obtain ⟨j6, rfl, _⟩ := typed_i64 rfl (hg' 6 3 6 g rfl rfl).typed
      obtain ⟨j7, rfl, _⟩ := typed_i64 rfl (hg' 7 3 7 k rfl rfl).typed
      exact ⟨⟨i0, i1, l2, l3, ⟨j0, j1, j2, m3, m4, m5, j6, j7⟩⟩, ⟨h2, q2, h3, g3, g4, g5⟩, .inr ⟨sm_int rfl, sm_int rfl, s2, s3, .inr ⟨sm_int rfl, sm_int rfl, sm_int rfl, t3, t4, t5, sm_int rfl, sm_int rfl, trivial⟩, trivial⟩⟩
theorem sss_29 {r q : Rp} (hr : RpOK r) (hq : RpOK q) (hne : r ≠ q) : Holds C P 174 [] 0 (FunPost C 174 0 [.tmp 4] (.sb true) []) (cutAt C w_sss b_sss [1, 1, 1, 1, 0] (S_s29 r q) (after C w_sss b_sss [1, 1, 1, 1, 0] [] lf)) := by
  refine of_eq (sss_C29 r q 0 _) ?_
  simp only [toRp_A]
  have e1 : eqR r r = true := eqR_iff.2 rfl
  have e2 : eqR q q = true := eqR_iff.2 rfl
  have e3 : eqR r q = false := Bool.eq_false_iff.2 fun h => hne (eqR_iff.1 h)
  have e4 : eqR q r = false := Bool.eq_false_iff.2 fun h => hne (eqR_iff.1 h).symm
  rw [e1, e2, e3, e4]
  exact ⟨e1 ▸ sameR_fun r r hr, trivial, fun _ => ⟨e3 ▸ sameR_fun r q hr, trivial, fun _ => ⟨e4 ▸ sameR_fun q r hq, trivial, fun _ => ⟨e2 ▸ sameR_fun q q hq, trivial, fun _ => post_tmp rfl (sm_sb rfl), fun h => (nb_no h).elim⟩, fun h => (Bool.noConfusion h)⟩, fun h => (Bool.noConfusion h)⟩, fun h => (nb_no h).elim⟩
theorem wrap_up (n : Int) : IntKind.wrap .i64 (n + 1) ≠ n := by
  simp only [IntKind.wrap, IntKind.bits, IntKind.signed]
  omega
theorem wrap_dn (n : Int) : IntKind.wrap .i64 (n - 1) ≠ n := by
  simp only [IntKind.wrap, IntKind.bits, IntKind.signed]
  omega
theorem cat_app {β : Type} (l : List β) (A : β → AV) (d0 x : β) {y dd : AV} (hy : y = A x ∨ sim (fun _ => none) y (A x)) {ex : Bool} {e : Nat} {m : Nat → Option Nat} : simR m (.dat (0 + l.length + 1) ex e (fun i => cat (0 + l.length) (fun i => A (l.getD (0 + i) d0)) (fun i => nthD [y] (0 + i) dd) (0 + i))) (.dat (l ++ [x]).length false e (fun i => A ((l ++ [x]).getD i d0))) :=
  sm_datr (by simp) (by simp) fun k hk => by
    unfold cat
    by_cases hkl : k < l.length
    · rw [if_pos (by omega)]
      refine .inl (congrArg A ?_)
      simp [List.getD_eq_getElem?_getD, List.getElem?_append, hkl]
    · obtain rfl : k = l.length := by omega
      rw [if_neg (by omega), Nat.sub_self]
      have : (l ++ [x]).getD l.length d0 = x := by simp [List.getD_eq_getElem?_getD]
      rw [this]
      show y = _ ∨ sim _ y _
      exact hy
theorem sm_q1 {m : Nat → Option Nat} (r : Rp) (x : ByteArray) {dd : AV} {ex : Bool} : sim m (.st [.i r.e, .i r.n, .dat (0 + r.names.length + 1) ex 1 (fun i => cat (0 + r.names.length) (fun i => strA (sAt r.names (0 + i))) (fun i => nthD [strA x] (0 + i) dd) (0 + i)), dPc false r.body, ndA r.nd]) (rpA { r with names := r.names ++ [x] }) :=
  ⟨sm_int rfl, sm_int rfl, cat_app r.names strA ByteArray.empty x (.inl rfl), sm_same rfl, sm_same rfl, trivial⟩
theorem sm_q2 {m : Nat → Option Nat} (r : Rp) {dd : AV} {ex : Bool} : sim m (.st [.i r.e, .i r.n, dS false r.names, .dat (0 + r.body.length + 1) ex 3 (fun i => cat (0 + r.body.length) (fun i => pcA (pcAt r.body (0 + i))) (fun i => nthD [.st [.i 0, .i 0, .i 1]] (0 + i) dd) (0 + i)), ndA r.nd]) (rpA { r with body := r.body ++ [(0, 0, 1)] }) :=
  ⟨sm_int rfl, sm_int rfl, sm_same rfl, cat_app r.body pcA (0, 0, 0) (0, 0, 1) (.inl rfl), sm_same rfl, trivial⟩
theorem sm_q3 {m : Nat → Option Nat} (r : Rp) {dd : AV} {ex : Bool} : sim m (.st [.i r.e, .i r.n, dS false r.names, dPc false r.body, .st [.i r.nd.id, .i r.nd.kind, .i r.nd.owner, .dat (0 + r.nd.acl.length + 1) ex 5 (fun i => cat (0 + r.nd.acl.length) (fun i => acA (acAt r.nd.acl (0 + i))) (fun i => nthD [.st [.i 0, .v (.bool false), .i 0, .i 0, .v (.bool false)]] (0 + i) dd) (0 + i)), dEn false r.nd.list, dPc false r.nd.body, .i r.nd.links, .i r.nd.ver]]) (rpA { r with nd := { r.nd with acl := r.nd.acl ++ [(0, false, 0, 0, false)] } }) :=
  ⟨sm_int rfl, sm_int rfl, sm_same rfl, sm_same rfl, .inr ⟨sm_int rfl, sm_int rfl, sm_int rfl, cat_app r.nd.acl acA (0, false, 0, 0, false) (0, false, 0, 0, false) (y := .st [.i 0, .v (.bool false), .i 0, .i 0, .v (.bool false)]) (.inr ⟨sm_int rfl, sm_b rfl, sm_int rfl, sm_int rfl, sm_b rfl, trivial⟩), sm_same rfl, sm_same rfl, sm_int rfl, sm_int rfl, trivial⟩, trivial⟩
theorem sm_q4 {m : Nat → Option Nat} (r : Rp) (z : Int) {dd : AV} {ex : Bool} : sim m (.st [.i r.e, .i r.n, dS false r.names, dPc false r.body, .st [.i r.nd.id, .i r.nd.kind, .i r.nd.owner, dAc false r.nd.acl, .dat (0 + r.nd.list.length + 1) ex 2 (fun i => cat (0 + r.nd.list.length) (fun i => enA (enAt r.nd.list (0 + i))) (fun i => nthD [.st [strA ByteArray.empty, .i z]] (0 + i) dd) (0 + i)), dPc false r.nd.body, .i r.nd.links, .i r.nd.ver]]) (rpA { r with nd := { r.nd with list := r.nd.list ++ [(ByteArray.empty, z)] } }) :=
  ⟨sm_int rfl, sm_int rfl, sm_same rfl, sm_same rfl, .inr ⟨sm_int rfl, sm_int rfl, sm_int rfl, sm_same rfl, cat_app r.nd.list enA (ByteArray.empty, 0) (ByteArray.empty, z) (.inl rfl), sm_same rfl, sm_int rfl, sm_int rfl, trivial⟩, trivial⟩
theorem set_row {β : Type} (l : List β) (A : β → AV) (d0 x : β) {k n : Nat} (hn : n = l.length) (hk : k < l.length) {y : AV} (hy : y = A x ∨ sim (fun _ => none) y (A x)) {ex : Bool} {e : Nat} {m : Nat → Option Nat} {f : Nat → AV} (hf : ∀ j, f j = if j = k then y else A (l.getD j d0)) : simR m (.dat n ex e f) (.dat (l.set k x).length false e (fun i => A ((l.set k x).getD i d0))) :=
  sm_datr (by rw [hn, List.length_set]) (by simp) fun j hj => by
    rw [hf j]
    by_cases hjk : j = k
    · subst hjk
      have : (l.set j x).getD j d0 = x := by simp [List.getD_eq_getElem?_getD, hk]
      rw [if_pos rfl, this]; exact hy
    · rw [if_neg hjk]
      refine .inl ?_
      have : k ≠ j := fun h => hjk h.symm
      simp [List.getD_eq_getElem?_getD, this]
theorem cp_row {β : Type} (l : List β) (A : β → AV) (d0 : β) {ex : Bool} {e : Nat} {m : Nat → Option Nat} {f : Nat → AV} (h0 : l.length = 0) : simR m (.dat (0 + l.length) ex e f) (.dat l.length false e (fun i => A (l.getD i d0))) :=
  sm_datr (by simp) (by simp) fun j hj => by omega
theorem set_ne {β : Type} {l : List β} {k : Nat} {x d0 : β} (hk : k < l.length) (hx : x ≠ l.getD k d0) : l ≠ l.set k x := fun h => hx (by
  have h2 := congrArg (fun m => m.getD k d0) h
  simp only [List.getD_eq_getElem?_getD, List.getElem?_set_self hk] at h2 ⊢
  simpa using h2.symm)
theorem app_ne {β : Type} (l : List β) (x : β) : l ≠ l ++ [x] := fun h => by
  have := congrArg List.length h
  simp at this
def s3_ok (r q : Rp) : Prop := RpOK q ∧ r ≠ q
theorem s3_end {r q : Rp} (hr : RpOK r) (h : s3_ok r q) : Holds C P 174 [] 0 (FunPost C 174 0 [.tmp 4] (.sb true) []) (cutAt C w_sss b_sss [1, 1, 1, 1, 0] (S_s29 r q) (after C w_sss b_sss [1, 1, 1, 1, 0] [] lf)) := sss_29 hr h.1 h.2
theorem s3_a {r : Rp} (hr : RpOK r) (x : ByteArray) (hn : r.names.length + 1 ≤ 9223372036854775807) : s3_ok r { r with names := r.names ++ [x] } :=
  ⟨⟨by rw [List.length_append]; exact hn, hr.2.1, hr.2.2⟩, fun h => app_ne r.names x (congrArg Rp.names h)⟩
theorem s3_b {r : Rp} (hr : RpOK r) (x : Pc) (hn : r.body.length + 1 ≤ 9223372036854775807) : s3_ok r { r with body := r.body ++ [x] } :=
  ⟨⟨hr.1, by rw [List.length_append]; exact hn, hr.2.2⟩, fun h => app_ne r.body x (congrArg Rp.body h)⟩
theorem s3_c {r : Rp} (hr : RpOK r) (x : Ac) (hn : r.nd.acl.length + 1 ≤ 9223372036854775807) : s3_ok r { r with nd := { r.nd with acl := r.nd.acl ++ [x] } } :=
  ⟨⟨hr.1, hr.2.1, by rw [List.length_append]; exact hn, hr.2.2.2.1, hr.2.2.2.2⟩, fun h => app_ne r.nd.acl x (congrArg (fun q : Rp => q.nd.acl) h)⟩
theorem s3_d {r : Rp} (hr : RpOK r) (x : En) (hn : r.nd.list.length + 1 ≤ 9223372036854775807) : s3_ok r { r with nd := { r.nd with list := r.nd.list ++ [x] } } :=
  ⟨⟨hr.1, hr.2.1, hr.2.2.1, by rw [List.length_append]; exact hn, hr.2.2.2.2⟩, fun h => app_ne r.nd.list x (congrArg (fun q : Rp => q.nd.list) h)⟩
theorem s3_f {r : Rp} (hr : RpOK r) (x : ByteArray) {k : Nat} (hk : k < r.names.length) (hx : x ≠ sAt r.names k) : s3_ok r { r with names := r.names.set k x } :=
  ⟨⟨by rw [List.length_set]; exact hr.1, hr.2.1, hr.2.2⟩, fun h => set_ne (d0 := ByteArray.empty) hk hx (congrArg Rp.names h)⟩
theorem s3_g {r : Rp} (hr : RpOK r) (x : Pc) {k : Nat} (hk : k < r.nd.body.length) (hx : x ≠ pcAt r.nd.body k) : s3_ok r { r with nd := { r.nd with body := r.nd.body.set k x } } :=
  ⟨⟨hr.1, hr.2.1, hr.2.2.1, hr.2.2.2.1, by rw [List.length_set]; exact hr.2.2.2.2⟩, fun h => set_ne (d0 := ((0, 0, 0) : Pc)) hk hx (congrArg (fun q : Rp => q.nd.body) h)⟩
theorem s3_step {r q : Rp} {S : St} (hr : RpOK r) (id : Nat) (h : s3_ok r q) (he : Ent C 174 ([] : List Deferred) 0 (S.freeze [id]) (S_s29 r q)) : ∃ S2, Ent C 174 ([] : List Deferred) 0 S S2 ∧ Holds C P 174 ([] : List Deferred) 0 (FunPost C 174 0 [.tmp 4] (.sb true) []) (cutAt C w_sss b_sss [1, 1, 1, 1, 0] S2 (after C w_sss b_sss [1, 1, 1, 1, 0] [] lf)) :=
  ⟨S_s29 r q, (ent_freeze S [id]).trans he, s3_end hr h⟩
set_option maxHeartbeats 4000000 in
theorem sss_fun {r : Rp} (hb : RpB r) {x : Tri} (hx : Tri8 x) : Fun C P F_sss [rpA r, triA x] [] (.sb true) [] := by
  refine in_sss (W := w_sss) rfl 0 (by simp) rfl (fun id h => absurd rfl h) ?_
  refine of_eq (sss_A r x 0 _) ⟨sanity_fun, trivial, shR_t, S_s3 r x, ent_of [(2, 2), (3, 3), (6, 6)] rfl (tm_cons rfl (sm_ptr rfl) (tm_cons rfl (sm_ptr rfl) (tm_cons rfl (sm_same rfl) (tm_cons rfl (sm_ptr rfl) tm_nil)))) (hp_cons rfl rfl (sm_same rfl) (hp_cons rfl rfl (sm_same rfl) (hp_cons rfl rfl (sm_same rfl) hp_nil))), ?_⟩
  obtain ⟨b1, b2, b3, b4, b5, b6⟩ := hb
  have rb : reachBytes = 140737488351232 := rfl
  rw [rb] at b1 b2 b3 b4 b5 b6
  have hr : RpOK r := ⟨by omega, by omega, by omega, by omega, by omega⟩
  have h1 : tri x 1 < 256 := hx.2.1
  refine of_eq (sss_C3 r x 0 _) ?_
  refine ⟨(by first | omega | decide | (unfold I64; omega)), (by first | omega | decide | (unfold I64; omega)), fun _ => ?_, fun _ => ⟨fun _ => ?_, fun _ => ⟨fun _ => ?_, fun _ => ⟨fun _ => ?_, fun _ => ⟨fun _ => ?_, fun _ => ⟨fun _ => ?_, fun _ => ⟨fun _ => ?_, fun _ => ?_⟩⟩⟩⟩⟩⟩⟩
  · exact ⟨S_s29 r { r with e := IntKind.wrap .i64 (r.e + 1) }, ent_of [(2, 2), (6, 6)] rfl (tm_cons rfl (sm_ptr rfl) (tm_cons rfl (sm_same rfl) (tm_cons rfl (sm_ptr rfl) tm_nil))) (hp_cons rfl rfl (sm_same rfl) (hp_cons rfl rfl (sm_same rfl) hp_nil)), s3_end hr ⟨⟨hr.1, hr.2.1, hr.2.2⟩, fun h => wrap_up r.e (congrArg Rp.e h).symm⟩⟩
  · exact ⟨(by first | omega | decide | (unfold I64; omega)), .inl rfl, by omega, by omega, S_s29 r { r with names := r.names ++ [ByteArray.mk #[97]] }, (ent_freeze _ [63]).trans (ent_of [(2, 2), (6, 6)] rfl (tm_cons rfl (sm_ptr rfl) (tm_cons rfl (sm_same rfl) (tm_cons rfl (sm_ptr rfl) tm_nil))) (hp_cons rfl rfl (sm_same rfl) (hp_cons rfl rfl (.inr (sm_q1 r _)) hp_nil))), s3_end hr (s3_a hr _ (by omega))⟩
  · exact ⟨(by first | omega | decide | (unfold I64; omega)), .inl rfl, by omega, by omega, S_s29 r { r with body := r.body ++ [(0, 0, 1)] }, (ent_freeze _ [76]).trans (ent_of [(2, 2), (6, 6)] rfl (tm_cons rfl (sm_ptr rfl) (tm_cons rfl (sm_same rfl) (tm_cons rfl (sm_ptr rfl) tm_nil))) (hp_cons rfl rfl (sm_same rfl) (hp_cons rfl rfl (.inr (sm_q2 r)) hp_nil))), s3_end hr (s3_b hr _ (by omega))⟩
  · exact ⟨(by first | omega | decide | (unfold I64; omega)), .inl rfl, by omega, by omega, S_s29 r { r with nd := { r.nd with acl := r.nd.acl ++ [(0, false, 0, 0, false)] } }, (ent_freeze _ [92]).trans (ent_of [(2, 2), (6, 6)] rfl (tm_cons rfl (sm_ptr rfl) (tm_cons rfl (sm_same rfl) (tm_cons rfl (sm_ptr rfl) tm_nil))) (hp_cons rfl rfl (sm_same rfl) (hp_cons rfl rfl (.inr (sm_q3 r)) hp_nil))), s3_end hr (s3_c hr _ (by omega))⟩
  · exact ⟨(by first | omega | decide | (unfold I64; omega)), .inl rfl, by omega, (by first | omega | decide | (unfold I64; omega)), (by first | omega | decide | (unfold I64; omega)), by omega, S_s29 r { r with nd := { r.nd with list := r.nd.list ++ [(ByteArray.empty, ((tri x 1 : Nat) : Int))] } }, (ent_freeze _ [112]).trans (ent_of [(2, 2), (6, 6)] rfl (tm_cons rfl (sm_ptr rfl) (tm_cons rfl (sm_same rfl) (tm_cons rfl (sm_ptr rfl) tm_nil))) (hp_cons rfl rfl (sm_same rfl) (hp_cons rfl rfl (.inr (sm_q4 r _)) hp_nil))), s3_end hr (s3_d hr _ (by omega))⟩
  · exact ⟨S_s29 r { r with nd := { r.nd with links := IntKind.wrap .i64 (r.nd.links + 1) } }, ent_of [(2, 2), (6, 6)] rfl (tm_cons rfl (sm_ptr rfl) (tm_cons rfl (sm_same rfl) (tm_cons rfl (sm_ptr rfl) tm_nil))) (hp_cons rfl rfl (sm_same rfl) (hp_cons rfl rfl (sm_same rfl) hp_nil)), s3_end hr ⟨⟨hr.1, hr.2.1, hr.2.2⟩, fun h => wrap_up r.nd.links (congrArg (fun q : Rp => q.nd.links) h).symm⟩⟩
  · refine ⟨(by first | omega | decide | (unfold I64; omega)), .inl rfl, by omega, fun hp => ?_, fun hp => ?_⟩
    · have hp := of_decide_eq_true hp
      simp only [Nat.zero_add] at hp ⊢
      obtain ⟨k, hk⟩ : ∃ k, k = tri x 1 % r.names.length := ⟨_, rfl⟩
      rw [← hk]
      have hkl : k < r.names.length := by rw [hk]; exact Nat.mod_lt _ (by omega)
      have hsz := b2 (sAt r.names k) (by rw [show sAt r.names k = r.names[k] from by simp [sAt, List.getD_eq_getElem?_getD, List.getElem?_eq_getElem hkl]]; exact List.getElem_mem hkl)
      refine ⟨(by first | omega | decide | (unfold I64; omega)), (by first | omega | decide | (unfold I64; omega)), by omega, by omega, by omega, by omega, s3_step hr 128 (q := { r with names := r.names.set k (sAt r.names k ++ ByteArray.mk #[120]) }) (s3_f hr _ hkl fun h => ?_) (ent_of [(2, 2), (6, 6)] rfl (tm_cons rfl (sm_ptr rfl) (tm_cons rfl (sm_same rfl) (tm_cons rfl (sm_ptr rfl) tm_nil))) (hp_cons rfl rfl (sm_same rfl) (hp_cons rfl rfl (.inr ⟨sm_int rfl, sm_int rfl, set_row r.names strA ByteArray.empty _ rfl hkl (k := k) (y := strA (sAt r.names k ++ ByteArray.mk #[120])) (.inl rfl) (fun j => ?_), sm_same rfl, sm_same rfl, trivial⟩) hp_nil)))⟩
      · have h2 := congrArg ByteArray.size h
        rw [ByteArray.size_append] at h2
        have : (ByteArray.mk #[120]).size = 1 := rfl
        omega
      · show (if 0 + j = k then _ else _) = _
        rw [Nat.zero_add]; rfl
    · have hp := of_decide_eq_false hp
      exact s3_step hr 128 (q := { r with n := IntKind.wrap .i64 (r.n + 1) }) ⟨⟨hr.1, hr.2.1, hr.2.2⟩, fun h => wrap_up r.n (congrArg Rp.n h).symm⟩ (ent_of [(2, 2), (6, 6)] rfl (tm_cons rfl (sm_ptr rfl) (tm_cons rfl (sm_same rfl) (tm_cons rfl (sm_ptr rfl) tm_nil))) (hp_cons rfl rfl (sm_same rfl) (hp_cons rfl rfl (.inr ⟨sm_int rfl, sm_int rfl, cp_row r.names strA ByteArray.empty (by omega), sm_same rfl, sm_same rfl, trivial⟩) hp_nil)))
  · refine ⟨(by first | omega | decide | (unfold I64; omega)), .inl rfl, by omega, fun hp => ?_, fun hp => ?_⟩
    · have hp := of_decide_eq_true hp
      simp only [Nat.zero_add] at hp ⊢
      obtain ⟨k, hk⟩ : ∃ k, k = tri x 1 % r.nd.body.length := ⟨_, rfl⟩
      rw [← hk]
      have hkl : k < r.nd.body.length := by rw [hk]; exact Nat.mod_lt _ (by omega)
      obtain ⟨p, hpd⟩ : ∃ p, p = pcAt r.nd.body k := ⟨_, rfl⟩
      rw [← hpd]
      refine ⟨(by first | omega | decide | (unfold I64; omega)), (by first | omega | decide | (unfold I64; omega)), by omega, by omega, by omega, s3_step hr 16 (q := { r with nd := { r.nd with body := r.nd.body.set k (p.1, IntKind.wrap .i64 (p.2.1 + 1), p.2.2) } }) (s3_g hr _ hkl fun h => ?_) (ent_of [(2, 2), (6, 6)] rfl (tm_cons rfl (sm_ptr rfl) (tm_cons rfl (sm_same rfl) (tm_cons rfl (sm_ptr rfl) tm_nil))) (hp_cons rfl rfl (sm_same rfl) (hp_cons rfl rfl (.inr ⟨sm_int rfl, sm_int rfl, sm_same rfl, sm_same rfl, .inr ⟨sm_int rfl, sm_int rfl, sm_int rfl, sm_same rfl, sm_same rfl, set_row r.nd.body pcA (0, 0, 0) _ rfl hkl (k := k) (y := .st [.i p.1, .i (IntKind.wrap .i64 (p.2.1 + 1)), .i p.2.2]) (.inl rfl) (fun j => ?_), sm_int rfl, sm_int rfl, trivial⟩, trivial⟩) hp_nil)))⟩
      · rw [← hpd] at h
        exact wrap_up p.2.1 (congrArg (fun q : Pc => q.2.1) h)
      · show (if 0 + j = k then _ else _) = _
        rw [Nat.zero_add]
    · have hp := of_decide_eq_false hp
      exact s3_step hr 16 (q := { r with nd := { r.nd with ver := IntKind.wrap .i64 (r.nd.ver - 1) } }) ⟨⟨hr.1, hr.2.1, hr.2.2⟩, fun h => wrap_dn r.nd.ver (congrArg (fun q : Rp => q.nd.ver) h).symm⟩ (ent_of [(2, 2), (6, 6)] rfl (tm_cons rfl (sm_ptr rfl) (tm_cons rfl (sm_same rfl) (tm_cons rfl (sm_ptr rfl) tm_nil))) (hp_cons rfl rfl (sm_same rfl) (hp_cons rfl rfl (.inr ⟨sm_int rfl, sm_int rfl, sm_same rfl, sm_same rfl, .inr ⟨sm_int rfl, sm_int rfl, sm_int rfl, sm_same rfl, sm_same rfl, cp_row r.nd.body pcA (0, 0, 0) (by omega), sm_int rfl, sm_int rfl, trivial⟩, trivial⟩) hp_nil)))
theorem sss_law {x0 x1 : AV} (h0 : TypedB C.tt reachBytes 6 39 x0) (h1 : Typed C.tt 6 51 x1) : Fun C P F_sss [x0, x1] [] (.sb true) [] := by
  obtain ⟨r, hb, s0⟩ := sized_rp h0
  obtain ⟨x, hx, s1⟩ := typed_tri' h1
  exact (sss_fun hb hx).sim ⟨s0, s1, trivial⟩ trivial
end Go.Bu.W

