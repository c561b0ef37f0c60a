/- Sealed bytes are 32 longer; Size tells how many bytes are sealed; less than 32 bytes are refused. -/
import Derived.Test.YtfioagkihgaimaaDoorK17
namespace Go.Bu.W
open Sp
def w_sls : Way := wayU [0, 1, 2, 4, 5, 6, 7, 8, 36] 58 [3,4,7]
def S_sls3 (key x : List Nat) : St := { tm := [(2, .ptr 2 []), (4, .sb false), (5, .sb true), (6, dB false x)], hp := [(2, .c (kyA key))], seen := [2] }
def S_sls4 (key x c : List Nat) : St := { tm := [(2, .ptr 2 []), (4, .sb false), (5, .sb true), (6, dB false x), (7, dB false c)], hp := [(2, .c (kyA key))], seen := [2] }
def S_sls7 (key few : List Nat) : St := { tm := [(2, .ptr 2 []), (4, .sb false), (5, .sb true), (8, dB false few)], hp := [(2, .c (kyA key))], seen := [2] }

theorem sls_A (key : List Nat) (ex : Bool) (b : List Nat) (K : Nat) (Φ : Ex → St → Prop) :
  (Holds C P 58 [] K Φ (vc C w_sls b_sls [] (start [kyA key, dB ex b] []) lf)) =
  (Fun W.C W.P (10 : Nat) [] [] (AV.sb true) [] ∧
 (True ∧
 (Fun W.C W.P (11 : Nat) [(AV.dat (List.length b) ex (1 : Nat) (rowL b))] [] (AV.sl (0 : Nat) [] (0 : Nat) (List.length (List.take (200 : Nat) (bytesL (List.length b) (rowL b)))) (List.length (List.take (200 : Nat) (bytesL (List.length b) (rowL b)))) false (1 : Nat)) [((0 : Nat), (Blk.c (AV.arr (List.length (List.take (200 : Nat) (bytesL (List.length b) (rowL b)))) (1 : Nat) (rowL (List.take (200 : Nat) (bytesL (List.length b) (rowL b)))))))] ∧
 (∃ (S2 : St), Ent W.C (58 : Nat) [] K (St.mk [((0 : Nat), (AV.arr (32 : Nat) (1 : Nat) (rowL key))), ((1 : Nat), (AV.dat (List.length b) ex (1 : Nat) (rowL b))), ((2 : Nat), (AV.ptr (2 : Nat) [])), ((4 : Nat), (AV.v (Value.bool false))), ((5 : Nat), (AV.sb true)), ((6 : Nat), (AV.sl (11 : Nat) [] (0 : Nat) (List.length (List.take (200 : Nat) (bytesL (List.length b) (rowL b)))) (List.length (List.take (200 : Nat) (bytesL (List.length b) (rowL b)))) false (1 : Nat)))] [((2 : Nat), (Blk.c (AV.arr (32 : Nat) (1 : Nat) (rowL key)))), ((11 : Nat), (Blk.c (AV.arr (List.length (List.take (200 : Nat) (bytesL (List.length b) (rowL b)))) (1 : Nat) (rowL (List.take (200 : Nat) (bytesL (List.length b) (rowL b)))))))] [(11 : Nat), (2 : Nat)]) S2 ∧ Holds W.C W.P (58 : Nat) [] K Φ (cutAt W.C w_sls b_sls [1, 1, 1, 0] S2 (after W.C w_sls b_sls [1, 1, 1, 0] [] lf)))))) := by kernel_rfl
theorem sls_C3 (key x : List Nat) (K : Nat) (Φ : Ex → St → Prop) :
  (Holds C P 58 [] K Φ (cutAt C w_sls b_sls [1, 1, 1, 0] (S_sls3 key x) (after C w_sls b_sls [1, 1, 1, 0] [] lf))) =
  (Fun W.C W.P (12 : Nat) [(AV.arr (32 : Nat) (1 : Nat) (rowL key)), (AV.v (Value.int IntKind.i64 (1 : Int))), (AV.dat (List.length x) false (1 : Nat) (rowL x))] [] (AV.sl (0 : Nat) [] (0 : Nat) (List.length (W.sealL (bytesL (32 : Nat) (rowL key)) (1 : Int) (datL (AV.dat (List.length x) false (1 : Nat) (rowL x))))) (List.length (W.sealL (bytesL (32 : Nat) (rowL key)) (1 : Int) (datL (AV.dat (List.length x) false (1 : Nat) (rowL x))))) false (1 : Nat)) [((0 : Nat), (Blk.c (AV.arr (List.length (W.sealL (bytesL (32 : Nat) (rowL key)) (1 : Int) (datL (AV.dat (List.length x) false (1 : Nat) (rowL x))))) (1 : Nat) (rowL (W.sealL (bytesL (32 : Nat) (rowL key)) (1 : Int) (datL (AV.dat (List.length x) false (1 : Nat) (rowL x))))))))] ∧
 (∃ (S2 : St), Ent W.C (58 : Nat) [] K (St.mk [((2 : Nat), (AV.ptr (2 : Nat) [])), ((4 : Nat), (AV.sb false)), ((5 : Nat), (AV.sb true)), ((6 : Nat), (AV.dat (List.length x) false (1 : Nat) (rowL x))), ((7 : Nat), (AV.sl (14 : Nat) [] (0 : Nat) (List.length (W.sealL (bytesL (32 : Nat) (rowL key)) (1 : Int) (datL (AV.dat (List.length x) false (1 : Nat) (rowL x))))) (List.length (W.sealL (bytesL (32 : Nat) (rowL key)) (1 : Int) (datL (AV.dat (List.length x) false (1 : Nat) (rowL x))))) false (1 : Nat)))] [((2 : Nat), (Blk.c (AV.arr (32 : Nat) (1 : Nat) (rowL key)))), ((14 : Nat), (Blk.c (AV.arr (List.length (W.sealL (bytesL (32 : Nat) (rowL key)) (1 : Int) (datL (AV.dat (List.length x) false (1 : Nat) (rowL x))))) (1 : Nat) (rowL (W.sealL (bytesL (32 : Nat) (rowL key)) (1 : Int) (datL (AV.dat (List.length x) false (1 : Nat) (rowL x))))))))] [(14 : Nat), (2 : Nat)]) S2 ∧ Holds W.C W.P (58 : Nat) [] K Φ (cutAt W.C w_sls b_sls [1, 1, 1, 1, 0, 0] S2 (after W.C w_sls b_sls [1, 1, 1, 1, 0, 0] [] lf)))) := by kernel_rfl
theorem sls_C4 (key x c : List Nat) (K : Nat) (Φ : Ex → St → Prop) :
  (Holds C P 58 [] K Φ (cutAt C w_sls b_sls [1, 1, 1, 1, 0, 0] (S_sls4 key x c) (after C w_sls b_sls [1, 1, 1, 1, 0, 0] [] lf))) =
  ((I64 ((((List.length x) + 32) : Nat) : Int)) ∧
 ((((((List.length c) : Nat) : Int) != ((((List.length x) + 32) : Nat) : Int)) = true → 
 (Φ Ex.ret (St.mk [((2 : Nat), (AV.ptr (2 : Nat) [])), ((4 : Nat), (AV.v (Value.bool false))), ((5 : Nat), (AV.sb true)), ((6 : Nat), (AV.dat (List.length x) false (1 : Nat) (rowL x))), ((7 : Nat), (AV.dat (List.length c) false (1 : Nat) (rowL c))), ((36 : Nat), (AV.v (Value.bool true)))] [((2 : Nat), (Blk.c (AV.arr (32 : Nat) (1 : Nat) (rowL key))))] [(2 : Nat)]))) ∧
 (((((List.length c) : Nat) : Int) != ((((List.length x) + 32) : Nat) : Int)) = false → 
 (Fun W.C W.P (20 : Nat) [(AV.dat (List.length c) false (1 : Nat) (rowL c))] [] (AV.v (Value.int IntKind.i64 (Max.max (0 : Int) ((((List.length c) : Nat) : Int) - (32 : Int))))) [] ∧
  (True ∧
  ((((Max.max (0 : Int) ((((List.length c) : Nat) : Int) - (32 : Int))) != (((List.length x) : Nat) : Int)) = true → 
  (Φ Ex.ret (St.mk [((2 : Nat), (AV.ptr (2 : Nat) [])), ((4 : Nat), (AV.v (Value.bool false))), ((5 : Nat), (AV.sb true)), ((6 : Nat), (AV.dat (List.length x) false (1 : Nat) (rowL x))), ((7 : Nat), (AV.dat (List.length c) false (1 : Nat) (rowL c))), ((36 : Nat), (AV.v (Value.bool true)))] [((2 : Nat), (Blk.c (AV.arr (32 : Nat) (1 : Nat) (rowL key))))] [(2 : Nat)]))) ∧
  (((Max.max (0 : Int) ((((List.length c) : Nat) : Int) - (32 : Int))) != (((List.length x) : Nat) : Int)) = false → 
  (Fun W.C W.P (20 : Nat) [(AV.dat (List.length x) false (1 : Nat) (rowL x))] [] (AV.v (Value.int IntKind.i64 (Max.max (0 : Int) ((((List.length x) : Nat) : Int) - (32 : Int))))) [] ∧
   (True ∧
   ((I64 ((((List.length x) : Nat) : Int) - (32 : Int))) ∧
   ((((Max.max (0 : Int) ((((List.length x) : Nat) : Int) - (32 : Int))) != (Max.max (0 : Int) ((((List.length x) : Nat) : Int) - (32 : Int)))) = true → 
   (Φ Ex.ret (St.mk [((2 : Nat), (AV.ptr (2 : Nat) [])), ((4 : Nat), (AV.v (Value.bool false))), ((5 : Nat), (AV.sb true)), ((6 : Nat), (AV.dat (List.length x) false (1 : Nat) (rowL x))), ((7 : Nat), (AV.dat (List.length c) false (1 : Nat) (rowL c))), ((36 : Nat), (AV.v (Value.bool true)))] [((2 : Nat), (Blk.c (AV.arr (32 : Nat) (1 : Nat) (rowL key))))] [(2 : Nat)]))) ∧
   (((Max.max (0 : Int) ((((List.length x) : Nat) : Int) - (32 : Int))) != (Max.max (0 : Int) ((((List.length x) : Nat) : Int) - (32 : Int)))) = false → 
   ((((0 : Int) ≤ (0 : Int)) ∧ (((0 : Int) ≤ (Min.min (((List.length x) : Nat) : Int) (31 : Int))) ∧ ((Min.min (((List.length x) : Nat) : Int) (31 : Int)) ≤ (((List.length x) : Nat) : Int)))) ∧
    (∃ (S2 : St), Ent W.C (58 : Nat) [] K (St.mk [((2 : Nat), (AV.ptr (2 : Nat) [])), ((4 : Nat), (AV.sb false)), ((5 : Nat), (AV.sb true)), ((6 : Nat), (AV.dat (List.length x) false (1 : Nat) (rowL x))), ((7 : Nat), (AV.dat (List.length c) false (1 : Nat) (rowL c))), ((8 : Nat), (AV.dat (Int.toNat (Min.min (((List.length x) : Nat) : Int) (31 : Int))) Bool.false (1 : Nat) (fun (i : Nat) => (AV.v (Value.int IntKind.u8 (((List.getD x ((0 : Nat) + i) (0 : Nat)) : Nat) : Int)))))), ((36 : Nat), (AV.v (Value.bool false)))] [((2 : Nat), (Blk.c (AV.arr (32 : Nat) (1 : Nat) (rowL key))))] [(2 : Nat)]) S2 ∧ Holds W.C W.P (58 : Nat) [] K Φ (cutAt W.C w_sls b_sls [1, 1, 1, 1, 1, 1, 0] S2 (after W.C w_sls b_sls [1, 1, 1, 1, 1, 1, 0] [] lf)))))))))))))))) := by kernel_rfl
theorem sls_C7 (key few : List Nat) (K : Nat) (Φ : Ex → St → Prop) :
  (Holds C P 58 [] K Φ (cutAt C w_sls b_sls [1, 1, 1, 1, 1, 1, 0] (S_sls7 key few) (after C w_sls b_sls [1, 1, 1, 1, 1, 1, 0] [] lf))) =
  (Fun W.C W.P (14 : Nat) [(AV.arr (32 : Nat) (1 : Nat) (rowL key)), (AV.v (Value.int IntKind.i64 (1 : Int))), (AV.dat (List.length few) false (1 : Nat) (rowL few))] [] (AV.st [(AV.sl (0 : Nat) [] (0 : Nat) (List.length (W.openL (bytesL (32 : Nat) (rowL key)) (1 : Int) (datL (AV.dat (List.length few) false (1 : Nat) (rowL few))))) (List.length (W.openL (bytesL (32 : Nat) (rowL key)) (1 : Int) (datL (AV.dat (List.length few) false (1 : Nat) (rowL few))))) false (1 : Nat)), (AV.v (Value.int IntKind.i64 (W.openE (bytesL (32 : Nat) (rowL key)) (1 : Int) (datL (AV.dat (List.length few) false (1 : Nat) (rowL few))))))]) [((0 : Nat), (Blk.c (AV.arr (List.length (W.openL (bytesL (32 : Nat) (rowL key)) (1 : Int) (datL (AV.dat (List.length few) false (1 : Nat) (rowL few))))) (1 : Nat) (rowL (W.openL (bytesL (32 : Nat) (rowL key)) (1 : Int) (datL (AV.dat (List.length few) false (1 : Nat) (rowL few))))))))] ∧
 ((((W.openE (bytesL (32 : Nat) (rowL key)) (1 : Int) (datL (AV.dat (List.length few) false (1 : Nat) (rowL few)))) == (50 : Int)) = true → 
 (Fun W.C W.P (23 : Nat) [(AV.arr (32 : Nat) (1 : Nat) (rowL key)), (AV.arr (32 : Nat) (1 : Nat) (rowL key)), (AV.v (Value.int IntKind.i64 (1 : Int))), (AV.dat (List.length few) false (1 : Nat) (rowL few))] [] (AV.st [(AV.sl (0 : Nat) [] (0 : Nat) (List.length (W.rekeyL (bytesL (32 : Nat) (rowL key)) (bytesL (32 : Nat) (rowL key)) (1 : Int) (datL (AV.dat (List.length few) false (1 : Nat) (rowL few))))) (List.length (W.rekeyL (bytesL (32 : Nat) (rowL key)) (bytesL (32 : Nat) (rowL key)) (1 : Int) (datL (AV.dat (List.length few) false (1 : Nat) (rowL few))))) false (1 : Nat)), (AV.v (Value.int IntKind.i64 (W.openE (bytesL (32 : Nat) (rowL key)) (1 : Int) (datL (AV.dat (List.length few) false (1 : Nat) (rowL few))))))]) [((0 : Nat), (Blk.c (AV.arr (List.length (W.rekeyL (bytesL (32 : Nat) (rowL key)) (bytesL (32 : Nat) (rowL key)) (1 : Int) (datL (AV.dat (List.length few) false (1 : Nat) (rowL few))))) (1 : Nat) (rowL (W.rekeyL (bytesL (32 : Nat) (rowL key)) (bytesL (32 : Nat) (rowL key)) (1 : Int) (datL (AV.dat (List.length few) false (1 : Nat) (rowL few))))))))] ∧
  ((((W.openE (bytesL (32 : Nat) (rowL key)) (1 : Int) (datL (AV.dat (List.length few) false (1 : Nat) (rowL few)))) == (50 : Int)) = true → 
  (Φ Ex.ret (St.mk [((2 : Nat), (AV.ptr (2 : Nat) [])), ((4 : Nat), (AV.sb true)), ((5 : Nat), (AV.sb true)), ((8 : Nat), (AV.dat (List.length few) false (1 : Nat) (rowL few)))] [((2 : Nat), (Blk.c (AV.arr (32 : Nat) (1 : Nat) (rowL key)))), ((44 : Nat), (Blk.c (AV.arr (List.length (W.openL (bytesL (32 : Nat) (rowL key)) (1 : Int) (datL (AV.dat (List.length few) false (1 : Nat) (rowL few))))) (1 : Nat) (rowL (W.openL (bytesL (32 : Nat) (rowL key)) (1 : Int) (datL (AV.dat (List.length few) false (1 : Nat) (rowL few)))))))), ((51 : Nat), (Blk.c (AV.arr (List.length (W.rekeyL (bytesL (32 : Nat) (rowL key)) (bytesL (32 : Nat) (rowL key)) (1 : Int) (datL (AV.dat (List.length few) false (1 : Nat) (rowL few))))) (1 : Nat) (rowL (W.rekeyL (bytesL (32 : Nat) (rowL key)) (bytesL (32 : Nat) (rowL key)) (1 : Int) (datL (AV.dat (List.length few) false (1 : Nat) (rowL few))))))))] [(51 : Nat), (44 : Nat), (2 : Nat)]))) ∧
  (((W.openE (bytesL (32 : Nat) (rowL key)) (1 : Int) (datL (AV.dat (List.length few) false (1 : Nat) (rowL few)))) == (50 : Int)) = false → 
  (Φ Ex.ret (St.mk [((2 : Nat), (AV.ptr (2 : Nat) [])), ((4 : Nat), (AV.v (Value.bool false))), ((5 : Nat), (AV.sb true)), ((8 : Nat), (AV.dat (List.length few) false (1 : Nat) (rowL few)))] [((2 : Nat), (Blk.c (AV.arr (32 : Nat) (1 : Nat) (rowL key)))), ((44 : Nat), (Blk.c (AV.arr (List.length (W.openL (bytesL (32 : Nat) (rowL key)) (1 : Int) (datL (AV.dat (List.length few) false (1 : Nat) (rowL few))))) (1 : Nat) (rowL (W.openL (bytesL (32 : Nat) (rowL key)) (1 : Int) (datL (AV.dat (List.length few) false (1 : Nat) (rowL few)))))))), ((51 : Nat), (Blk.c (AV.arr (List.length (W.rekeyL (bytesL (32 : Nat) (rowL key)) (bytesL (32 : Nat) (rowL key)) (1 : Int) (datL (AV.dat (List.length few) false (1 : Nat) (rowL few))))) (1 : Nat) (rowL (W.rekeyL (bytesL (32 : Nat) (rowL key)) (bytesL (32 : Nat) (rowL key)) (1 : Int) (datL (AV.dat (List.length few) false (1 : Nat) (rowL few))))))))] [(51 : Nat), (44 : Nat), (2 : Nat)])))))) ∧
 (((W.openE (bytesL (32 : Nat) (rowL key)) (1 : Int) (datL (AV.dat (List.length few) false (1 : Nat) (rowL few)))) == (50 : Int)) = false → 
 (Φ Ex.ret (St.mk [((2 : Nat), (AV.ptr (2 : Nat) [])), ((4 : Nat), (AV.v (Value.bool false))), ((5 : Nat), (AV.sb true)), ((8 : Nat), (AV.dat (List.length few) false (1 : Nat) (rowL few)))] [((2 : Nat), (Blk.c (AV.arr (32 : Nat) (1 : Nat) (rowL key)))), ((44 : Nat), (Blk.c (AV.arr (List.length (W.openL (bytesL (32 : Nat) (rowL key)) (1 : Int) (datL (AV.dat (List.length few) false (1 : Nat) (rowL few))))) (1 : Nat) (rowL (W.openL (bytesL (32 : Nat) (rowL key)) (1 : Int) (datL (AV.dat (List.length few) false (1 : Nat) (rowL few))))))))] [(44 : Nat), (2 : Nat)]))))) := by kernel_rfl
theorem sls_fun (key : List Nat) (ex : Bool) (b : List Nat) (hk : key.length = 32) (hs : Small key) (hb : Small b) : Fun C P F_sls [kyA key, dB ex b] [] (.sb true) [] := by
  refine in_sls (W := w_sls) rfl 0 (by simp) rfl (fun id h => absurd rfl h) ?_
  obtain ⟨x, hx⟩ : ∃ x, x = b.take 200 := ⟨_, rfl⟩
  have sx : Small x := hx ▸ small_take hb 200
  have lx : x.length ≤ 200 := by rw [hx]; simp; omega
  have h1 : I64 1 := by unfold I64; decide
  refine of_eq (sls_A key ex b 0 _) ⟨sanity_fun, trivial, short_call (B8_row hb _) (.inr rfl), cut_ok (S2 := S_sls3 key x) (Ent.trans (ent_freeze _ [11]) (ent_of [(2, 2)] rfl (tm_cons rfl (sm_ptr rfl) (tm_cons rfl (sm_b rfl) (tm_cons rfl (sm_same rfl) (tm_cons rfl (sm_dat' (by rw [bytesL_row, hx]) (by simp) fun i hi => ?_) tm_nil)))) (hp_cons rfl rfl (sm_same rfl) hp_nil))) ?_⟩
  · rw [bytesL_row, ← hx, Nat.zero_add]
  obtain ⟨c, hc⟩ : ∃ c, c = sealL key 1 x := ⟨_, rfl⟩
  have sc : Small c := hc ▸ small_sealL key 1 sx
  have lc : c.length = x.length + 32 := by rw [hc, sealL_len]
  refine of_eq (sls_C3 key x 0 _) ⟨seal_call (B8_row hs 32) h1 (B8_row sx _) (.inr rfl) (by first | omega | decide | (unfold I64; omega)), cut_ok (S2 := S_sls4 key x c) (Ent.trans (ent_freeze _ [14]) (ent_of [(2, 2)] rfl (tm_cons rfl (sm_ptr rfl) (tm_cons rfl (sm_same rfl) (tm_cons rfl (sm_same rfl) (tm_cons rfl (sm_same rfl) (tm_cons rfl (sm_dat' (by rw [kyl hk, datR, hc]) (by simp) fun i hi => ?_) tm_nil))))) (hp_cons rfl rfl (sm_same rfl) hp_nil))) ?_⟩
  · rw [kyl hk, datR, ← hc, Nat.zero_add]
  obtain ⟨few, hf⟩ : ∃ few, few = x.take 31 := ⟨_, rfl⟩
  have sf : Small few := hf ▸ small_take sx 31
  have lf : few.length < 32 := by rw [hf]; simp; omega
  have em : (min ((x.length : Nat) : Int) 31).toNat = few.length := by rw [hf]; simp; omega
  refine of_eq (sls_C4 key x c 0 _) ⟨(by first | omega | decide | (unfold I64; omega)), bne_then (by rw [lc]) ⟨size_call (B8_row sc _) (.inr rfl) (by first | omega | decide | (unfold I64; omega)), trivial, bne_then (by rw [lc]; omega) ⟨size_call (B8_row sx _) (.inr rfl) (by first | omega | decide | (unfold I64; omega)), trivial, (by first | omega | decide | (unfold I64; omega)), bne_then rfl ⟨(by first | omega | decide | (unfold I64; omega)),
    cut_ok (S2 := S_sls7 key few) (ent_of [(2, 2)] rfl (tm_cons rfl (sm_ptr rfl) (tm_cons rfl (sm_same rfl) (tm_cons rfl (sm_same rfl) (tm_cons rfl (sm_dat' em (by simp) fun i hi => ?_) tm_nil)))) (hp_cons rfl rfl (sm_same rfl) hp_nil)) ?_⟩⟩⟩⟩
  · rw [em] at hi
    have hi' : i < 31 := by rw [hf] at hi; simp at hi; omega
    show u8 (x.getD (0 + i) 0) = u8 (few.getD i 0)
    rw [hf, Nat.zero_add]
    simp [List.getD_eq_getElem?_getD, hi']
  have he : openE (bytesL 32 (rowL key)) 1 (datL (.dat few.length false 1 (rowL few))) = 50 := by
    rw [kyl hk, datR]
    exact (right_no (right_few lf)).2
  refine of_eq (sls_C7 key few 0 _) ⟨opened_call (B8_row hs 32) h1 (B8_row sf _) (.inr rfl) (by first | omega | decide | (unfold I64; omega)), tt_then (by rw [he]; rfl) ⟨rekeyed_call (B8_row hs 32) (B8_row hs 32) h1 (B8_row sf _) (.inr rfl) (by first | omega | decide | (unfold I64; omega)), tt_then (by rw [he]; rfl) (post_tmp rfl (sm_same rfl))⟩⟩
theorem sls_law {x0 x1 : AV} (h0 : Typed C.tt 6 23 x0) (h1 : Typed C.tt 6 24 x1) : Fun C P F_sls [x0, x1] [] (.sb true) [] := by
  obtain ⟨key, hs, hk, s0⟩ := typed_arrB (e := 5) (m := 32) rfl rfl rfl h0
  obtain ⟨b, ex, hb, _, s1⟩ := typed_bytes (e := 5) rfl rfl rfl h1
  exact (sls_fun key ex b hk hs hb).sim ⟨s0, s1, trivial⟩ trivial
end Go.Bu.W

