/- Plain numbers: what the machine's operations on unsigned numbers come to; the sponge's functions, plainly. -/
import Derived.Test.YtoaefniopgmoaaaDoorK6
import Derived.KernelRfl
namespace Go.Bu
theorem wrap_u64 (n : Nat) : IntKind.wrap .u64 (n : Int) = ((n % 2 ^ 64 : Nat) : Int) := by
 simp [IntKind.wrap, IntKind.bits, IntKind.signed]
theorem wrap_u8 (n : Nat) : IntKind.wrap .u8 (n : Int) = ((n % 256 : Nat) : Int) := by
 simp [IntKind.wrap, IntKind.bits, IntKind.signed]
theorem bv64 (n : Nat) : (BitVec.ofInt (IntKind.bits .u64) (n : Int)).toNat = n % 2 ^ 64 := by
 simp [IntKind.bits]
theorem and64 {a b : Nat} (ha : a < 2 ^ 64) (hb : b < 2 ^ 64) : bAnd .u64 (a : Int) (b : Int) = ((a &&& b : Nat) : Int) := by
 unfold bAnd
 rw [BitVec.toNat_and, bv64, bv64, Nat.mod_eq_of_lt ha, Nat.mod_eq_of_lt hb, wrap_u64, Nat.mod_eq_of_lt (Nat.and_lt_two_pow a hb)]
theorem or64 {a b : Nat} (ha : a < 2 ^ 64) (hb : b < 2 ^ 64) : bOr .u64 (a : Int) (b : Int) = ((a ||| b : Nat) : Int) := by
 unfold bOr
 rw [BitVec.toNat_or, bv64, bv64, Nat.mod_eq_of_lt ha, Nat.mod_eq_of_lt hb, wrap_u64, Nat.mod_eq_of_lt (Nat.or_lt_two_pow ha hb)]
theorem xor64 {a b : Nat} (ha : a < 2 ^ 64) (hb : b < 2 ^ 64) : bXor .u64 (a : Int) (b : Int) = ((a ^^^ b : Nat) : Int) := by
 unfold bXor
 rw [BitVec.toNat_xor, bv64, bv64, Nat.mod_eq_of_lt ha, Nat.mod_eq_of_lt hb, wrap_u64, Nat.mod_eq_of_lt (Nat.xor_lt_two_pow ha hb)]
theorem shl64 (a s : Nat) : bShl .u64 (a : Int) (s : Int) = (((a <<< s) % 2 ^ 64 : Nat) : Int) := by
 unfold bShl
 rw [Int.toNat_natCast]
 simp only [IntKind.bits]
 have e : ((a : Int) * 2 ^ (min s 64)) = ((a * 2 ^ (min s 64) : Nat) : Int) := by simp
 rw [e, wrap_u64]
 congr 1
 by_cases h : s ≤ 64
 ·rw [Nat.min_eq_left h, Nat.shiftLeft_eq]
 ·rw [Nat.min_eq_right (by omega), Nat.shiftLeft_eq, Nat.mul_mod_left, show s = 64 + (s - 64) by omega, Nat.pow_add, ← Nat.mul_assoc, Nat.mul_right_comm]
  simp
theorem shr64 (a s : Nat) (ha : a < 2 ^ 64) : bShr .u64 (a : Int) (s : Int) = ((a >>> s : Nat) : Int) := by
 unfold bShr
 rw [Int.toNat_natCast]
 simp only [IntKind.bits]
 have e : (2 : Int) ^ (min s 64) = ((2 ^ (min s 64) : Nat) : Int) := by simp
 rw [e, Int.fdiv_eq_ediv_of_nonneg _ (Int.natCast_nonneg _), ← Int.natCast_ediv, Nat.shiftRight_eq_div_pow]
 congr 1
 by_cases h : s ≤ 64
 ·rw [Nat.min_eq_left h]
 ·rw [Nat.min_eq_right (by omega), Nat.div_eq_of_lt ha, Nat.div_eq_of_lt]
  exact Nat.lt_of_lt_of_le ha (Nat.pow_le_pow_right (by decide) (by omega))
end Go.Bu
namespace Go.Bu.Sp
def rotl (x s : Nat) : Nat := (x <<< s) % 2 ^ 64 ||| (x >>> (64 - s))
def turnsL : List Nat := [0, 1, 62, 28, 27, 36, 44, 6, 55, 20, 3, 10, 43, 25, 39, 41, 45, 15, 21, 8, 18, 2, 61, 56, 14]
def turnsN (i : Nat) : Nat := turnsL.getD i 0
def wordsL : List Nat := [1, 32898, 9223372036854808714, 9223372039002292224, 32907, 2147483649, 9223372039002292353, 9223372036854808585, 138, 136, 2147516425, 2147483658, 2147516555, 9223372036854775947, 9223372036854808713, 9223372036854808579, 9223372036854808578, 9223372036854775936, 32778, 9223372039002259466, 9223372039002292353, 9223372036854808704, 2147483649, 9223372039002292232]
def wordsN (i : Nat) : Nat := wordsL.getD i 0
def cN (a : Nat → Nat) : Nat → Nat → Nat
 | 0, _ => 0
 | i + 1, j => if j = i % 5 then cN a i j ^^^ a i else cN a i j
def theta (a : Nat → Nat) (i : Nat) : Nat := a i ^^^ (cN a 25 ((i % 5 + 4) % 5) ^^^ rotl (cN a 25 ((i % 5 + 1) % 5)) 1)
def piN (i : Nat) : Nat := i / 5 + 5 * ((2 * (i % 5) + 3 * (i / 5)) % 5)
def bN (a : Nat → Nat) : Nat → Nat → Nat
 | 0, _ => 0
 | i + 1, j => if j = piN i then rotl (theta a i) (turnsN i) else bN a i j
def chi (b : Nat → Nat) (i : Nat) : Nat := b i ^^^ (((2 ^ 64 - 1) ^^^ b (i / 5 * 5 + (i + 1) % 5)) &&& b (i / 5 * 5 + (i + 2) % 5))
def roundN (a : Nat → Nat) (k i : Nat) : Nat := if i = 0 then chi (bN a 25) 0 ^^^ k else chi (bN a 25) i
def absN (a blk : Nat → Nat) : Nat → Nat → Nat
 | 0, j => a j
 | i + 1, j => if j = i / 8 then absN a blk i j ^^^ ((blk i <<< (8 * (i % 8))) % 2 ^ 64) else absN a blk i j
def permN (a : Nat → Nat) : Nat → Nat → Nat
 | 0 => a
 | t + 1 => roundN (permN a t) (wordsN t)
def mixN (a blk : Nat → Nat) (n : Nat) : Nat → Nat := permN (absN a blk n) 24
def stN (l : List Nat) : Nat → Nat → Nat
 | 0 => fun _ => 0
 | m + 1 => mixN (stN l m) (fun i => l.getD (136 * m + i) 0) 136
def lastBlk (l : List Nat) (i : Nat) : Nat :=
 (if i < l.length % 136 then l.getD (136 * (l.length / 136) + i) 0 else if i = l.length % 136 then 6 else 0) + (if i = 135 then 128 else 0)
def sumN (l : List Nat) (i : Nat) : Nat := (mixN (stN l (l.length / 136)) (lastBlk l) 136 (i / 8) >>> (8 * (i % 8))) % 256
def sumL (l : List Nat) : List Nat := (List.range 32).map (sumN l)
def eightN (n : Int) (i : Nat) : Nat := ((n % 18446744073709551616).toNat >>> (56 - 8 * i)) % 256
def eightL (n : Int) : List Nat := (List.range 8).map (eightN n)
def ofBytes (tag : Nat) (parts : List (List Nat)) : List Nat := tag :: parts.flatMap fun p => eightL p.length ++ p
def ofL (tag : Nat) (parts : List (List Nat)) : List Nat := sumL (ofBytes tag parts)
def blockL (key : List Nat) (id : Int) (i : Nat) : List Nat := ofL 83 [key, eightL id, eightL i]
def streamL (key : List Nat) (id : Int) (n : Nat) : List Nat := (List.range n).map fun k => (blockL key id (k / 32)).getD (k % 32) 0
theorem rotl_lt {x s : Nat} (hx : x < 2 ^ 64) : rotl x s < 2 ^ 64 := by
 unfold rotl
 refine Nat.or_lt_two_pow (Nat.mod_lt _ (by decide)) ?_
 rw [Nat.shiftRight_eq_div_pow]
 exact Nat.lt_of_le_of_lt (Nat.div_le_self _ _) hx
theorem cN_lt {a : Nat → Nat} {n : Nat} (h : ∀ i, i < n → a i < 2 ^ 64) : ∀ i, i ≤ n → ∀ j, cN a i j < 2 ^ 64
 | 0, _, j => by simp [cN]
 | i + 1, hi, j => by
  simp only [cN]
  split
  ·exact Nat.xor_lt_two_pow (cN_lt h i (by omega) j) (h i (by omega))
  ·exact cN_lt h i (by omega) j
theorem theta_lt {a : Nat → Nat} (h : ∀ i, i < 25 → a i < 2 ^ 64) {i : Nat} (hi : i < 25) : theta a i < 2 ^ 64 :=
 Nat.xor_lt_two_pow (h i hi) (Nat.xor_lt_two_pow (cN_lt h 25 (Nat.le_refl _) _) (rotl_lt (cN_lt h 25 (Nat.le_refl _) _)))
theorem bN_lt {a : Nat → Nat} (h : ∀ i, i < 25 → a i < 2 ^ 64) : ∀ i, i ≤ 25 → ∀ j, bN a i j < 2 ^ 64
 | 0, _, j => by simp [bN]
 | i + 1, hi, j => by
  simp only [bN]
  split
  ·exact rotl_lt (theta_lt h (by omega))
  ·exact bN_lt h i (by omega) j
theorem chi_lt {b : Nat → Nat} (h : ∀ i, b i < 2 ^ 64) (i : Nat) : chi b i < 2 ^ 64 :=
 Nat.xor_lt_two_pow (h _) (Nat.and_lt_two_pow _ (h _))
theorem roundN_lt {a : Nat → Nat} {k : Nat} (h : ∀ i, i < 25 → a i < 2 ^ 64) (hk : k < 2 ^ 64) (i : Nat) : roundN a k i < 2 ^ 64 := by
 unfold roundN
 split
 ·exact Nat.xor_lt_two_pow (chi_lt (bN_lt h 25 (Nat.le_refl _)) _) hk
 ·exact chi_lt (bN_lt h 25 (Nat.le_refl _)) _
theorem wordsN_lt (i : Nat) : wordsN i < 2 ^ 64 := by
 by_cases h : i < 24
 ·have : ∀ i : Fin 24, wordsN i.1 < 2 ^ 64 := by decide
  exact this ⟨i, h⟩
 ·unfold wordsN
  rw [List.getD_eq_getElem?_getD, List.getElem?_eq_none (by simp [wordsL]; omega)]
  decide
theorem turnsN_lt (i : Nat) : turnsN i < 64 := by
 by_cases h : i < 25
 ·have : ∀ i : Fin 25, turnsN i.1 < 64 := by decide
  exact this ⟨i, h⟩
 ·unfold turnsN
  rw [List.getD_eq_getElem?_getD, List.getElem?_eq_none (by simp [turnsL]; omega)]
  decide
theorem absN_lt {a blk : Nat → Nat} {j : Nat} (h : a j < 2 ^ 64) : ∀ i, absN a blk i j < 2 ^ 64
 | 0 => h
 | i + 1 => by
  simp only [absN]
  split
  ·exact Nat.xor_lt_two_pow (absN_lt h i) (Nat.mod_lt _ (by decide))
  ·exact absN_lt h i
theorem permN_lt {a : Nat → Nat} (h : ∀ i, i < 25 → a i < 2 ^ 64) : ∀ t i, i < 25 → permN a t i < 2 ^ 64
 | 0, i, hi => h i hi
 | t + 1, i, _ => roundN_lt (permN_lt h t) (wordsN_lt t) i
theorem mixN_lt {a blk : Nat → Nat} {n : Nat} (h : ∀ i, i < 25 → a i < 2 ^ 64) (i : Nat) (hi : i < 25) : mixN a blk n i < 2 ^ 64 := permN_lt (fun i hi => absN_lt (h i hi) n) 24 i hi
theorem stN_lt {l : List Nat} : ∀ m i, i < 25 → stN l m i < 2 ^ 64
 | 0, i, _ => by simp [stN]
 | m + 1, i, hi => mixN_lt (stN_lt m) i hi
theorem cN_congr {a b : Nat → Nat} : ∀ n, (∀ i, i < n → a i = b i) → ∀ j, cN a n j = cN b n j
 | 0, _, _ => rfl
 | n + 1, h, j => by simp only [cN]; rw [cN_congr n (fun i hi => h i (by omega)), h n (by omega)]
theorem theta_congr {a b : Nat → Nat} (h : ∀ i, i < 25 → a i = b i) {i : Nat} (hi : i < 25) : theta a i = theta b i := by
 unfold theta; rw [h i hi, cN_congr 25 h, cN_congr 25 h]
theorem bN_congr {a b : Nat → Nat} (h : ∀ i, i < 25 → a i = b i) : ∀ n, n ≤ 25 → ∀ j, bN a n j = bN b n j
 | 0, _, _ => rfl
 | n + 1, hn, j => by simp only [bN]; rw [bN_congr h n (by omega), theta_congr h (by omega)]
theorem roundN_congr {a b : Nat → Nat} (h : ∀ i, i < 25 → a i = b i) (k i : Nat) : roundN a k i = roundN b k i := by
 have e : bN a 25 = bN b 25 := funext fun j => bN_congr h 25 (Nat.le_refl _) j
 unfold roundN; rw [e]
theorem permN_congr {a b : Nat → Nat} (h : ∀ i, i < 25 → a i = b i) : ∀ t i, i < 25 → permN a t i = permN b t i
 | 0, i, hi => h i hi
 | t + 1, i, _ => roundN_congr (permN_congr h t) _ i
theorem absN_congr {a b blk blk' : Nat → Nat} {j : Nat} (h : a j = b j) : ∀ n, (∀ i, i < n → blk i = blk' i) → absN a blk n j = absN b blk' n j
 | 0, _ => h
 | n + 1, hb => by simp only [absN]; rw [absN_congr h n (fun i hi => hb i (by omega)), hb n (by omega)]
theorem mixN_congr {a b blk blk' : Nat → Nat} {n : Nat} (h : ∀ i, i < 25 → a i = b i) (hb : ∀ i, i < n → blk i = blk' i) (i : Nat) (hi : i < 25) : mixN a blk n i = mixN b blk' n i :=
 permN_congr (fun i hi => absN_congr (h i hi) n hb) 24 i hi
end Go.Bu.Sp
namespace Go.Bu.Sp
def rndL (l : List Nat) (k : Nat) : List Nat :=
  match l with
  | [a0, a1, a2, a3, a4, a5, a6, a7, a8, a9, a10, a11, a12, a13, a14, a15, a16, a17, a18, a19, a20, a21, a22, a23, a24] =>
    (fun (c0 c1 c2 c3 c4 : Nat) => (fun (d0 d1 d2 d3 d4 : Nat) => (fun (b0 b1 b2 b3 b4 b5 b6 b7 b8 b9 b10 b11 b12 b13 b14 b15 b16 b17 b18 b19 b20 b21 b22 b23 b24 : Nat) =>
      [((b0 ^^^ (((2 ^ 64 - 1) ^^^ b1) &&& b2)) ^^^ k),
       (b1 ^^^ (((2 ^ 64 - 1) ^^^ b2) &&& b3)),
       (b2 ^^^ (((2 ^ 64 - 1) ^^^ b3) &&& b4)),
       (b3 ^^^ (((2 ^ 64 - 1) ^^^ b4) &&& b0)),
       (b4 ^^^ (((2 ^ 64 - 1) ^^^ b0) &&& b1)),
       (b5 ^^^ (((2 ^ 64 - 1) ^^^ b6) &&& b7)),
       (b6 ^^^ (((2 ^ 64 - 1) ^^^ b7) &&& b8)),
       (b7 ^^^ (((2 ^ 64 - 1) ^^^ b8) &&& b9)),
       (b8 ^^^ (((2 ^ 64 - 1) ^^^ b9) &&& b5)),
       (b9 ^^^ (((2 ^ 64 - 1) ^^^ b5) &&& b6)),
       (b10 ^^^ (((2 ^ 64 - 1) ^^^ b11) &&& b12)),
       (b11 ^^^ (((2 ^ 64 - 1) ^^^ b12) &&& b13)),
       (b12 ^^^ (((2 ^ 64 - 1) ^^^ b13) &&& b14)),
       (b13 ^^^ (((2 ^ 64 - 1) ^^^ b14) &&& b10)),
       (b14 ^^^ (((2 ^ 64 - 1) ^^^ b10) &&& b11)),
       (b15 ^^^ (((2 ^ 64 - 1) ^^^ b16) &&& b17)),
       (b16 ^^^ (((2 ^ 64 - 1) ^^^ b17) &&& b18)),
       (b17 ^^^ (((2 ^ 64 - 1) ^^^ b18) &&& b19)),
       (b18 ^^^ (((2 ^ 64 - 1) ^^^ b19) &&& b15)),
       (b19 ^^^ (((2 ^ 64 - 1) ^^^ b15) &&& b16)),
       (b20 ^^^ (((2 ^ 64 - 1) ^^^ b21) &&& b22)),
       (b21 ^^^ (((2 ^ 64 - 1) ^^^ b22) &&& b23)),
       (b22 ^^^ (((2 ^ 64 - 1) ^^^ b23) &&& b24)),
       (b23 ^^^ (((2 ^ 64 - 1) ^^^ b24) &&& b20)),
       (b24 ^^^ (((2 ^ 64 - 1) ^^^ b20) &&& b21))])
      (rotl (a0 ^^^ d0) 0) (rotl (a6 ^^^ d1) 44) (rotl (a12 ^^^ d2) 43) (rotl (a18 ^^^ d3) 21) (rotl (a24 ^^^ d4) 14) (rotl (a3 ^^^ d3) 28) (rotl (a9 ^^^ d4) 20) (rotl (a10 ^^^ d0) 3) (rotl (a16 ^^^ d1) 45) (rotl (a22 ^^^ d2) 61) (rotl (a1 ^^^ d1) 1) (rotl (a7 ^^^ d2) 6) (rotl (a13 ^^^ d3) 25) (rotl (a19 ^^^ d4) 8) (rotl (a20 ^^^ d0) 18) (rotl (a4 ^^^ d4) 27) (rotl (a5 ^^^ d0) 36) (rotl (a11 ^^^ d1) 10) (rotl (a17 ^^^ d2) 15) (rotl (a23 ^^^ d3) 56) (rotl (a2 ^^^ d2) 62) (rotl (a8 ^^^ d3) 55) (rotl (a14 ^^^ d4) 39) (rotl (a15 ^^^ d0) 41) (rotl (a21 ^^^ d1) 2))
      (c4 ^^^ rotl c1 1) (c0 ^^^ rotl c2 1) (c1 ^^^ rotl c3 1) (c2 ^^^ rotl c4 1) (c3 ^^^ rotl c0 1))
      (((((0 ^^^ a0) ^^^ a5) ^^^ a10) ^^^ a15) ^^^ a20) (((((0 ^^^ a1) ^^^ a6) ^^^ a11) ^^^ a16) ^^^ a21) (((((0 ^^^ a2) ^^^ a7) ^^^ a12) ^^^ a17) ^^^ a22) (((((0 ^^^ a3) ^^^ a8) ^^^ a13) ^^^ a18) ^^^ a23) (((((0 ^^^ a4) ^^^ a9) ^^^ a14) ^^^ a19) ^^^ a24)
  | _ => []
theorem len25 : ∀ {l : List Nat}, l.length = 25 → ∃ a0 a1 a2 a3 a4 a5 a6 a7 a8 a9 a10 a11 a12 a13 a14 a15 a16 a17 a18 a19 a20 a21 a22 a23 a24, l = [a0, a1, a2, a3, a4, a5, a6, a7, a8, a9, a10, a11, a12, a13, a14, a15, a16, a17, a18, a19, a20, a21, a22, a23, a24]
 | [a0, a1, a2, a3, a4, a5, a6, a7, a8, a9, a10, a11, a12, a13, a14, a15, a16, a17, a18, a19, a20, a21, a22, a23, a24], _ => ⟨a0, a1, a2, a3, a4, a5, a6, a7, a8, a9, a10, a11, a12, a13, a14, a15, a16, a17, a18, a19, a20, a21, a22, a23, a24, rfl⟩
set_option maxRecDepth 100000 in
theorem rndL_eq (l : List Nat) (k : Nat) (hl : l.length = 25) : rndL l k = (List.range 25).map (roundN (fun i => l.getD i 0) k) := by
 obtain ⟨a0, a1, a2, a3, a4, a5, a6, a7, a8, a9, a10, a11, a12, a13, a14, a15, a16, a17, a18, a19, a20, a21, a22, a23, a24, rfl⟩ := len25 hl
 kernel_rfl
def permL (l : List Nat) : List Nat → List Nat
 | [] => l
 | k :: r => permL (rndL l k) r
def fastSum (l : List Nat) : List Nat :=
 (fun s : List Nat => (List.range 32).map fun i => (s.getD (i / 8) 0 >>> (8 * (i % 8))) % 256) (permL ((List.range 25).map fun j => absN (fun _ => 0) (lastBlk l) 136 j) wordsL)
theorem permL_get (a : Nat → Nat) (l : List Nat) (hl : l.length = 25) : ∀ (ws : List Nat) (t : Nat), ws = wordsL.drop t → t ≤ 24 → (∀ i, i < 25 → l.getD i 0 = permN a t i) → ∀ i, i < 25 → (permL l ws).getD i 0 = permN a 24 i := by
 intro ws
 induction ws generalizing l with
 | nil =>
  intro t ht hle h i hi
  have : wordsL.length ≤ t := List.drop_eq_nil_iff.1 ht.symm
  have e : t = 24 := by simp [wordsL] at this; omega
  subst e
  exact h i hi
 | cons k r ih =>
  intro t ht hle h i hi
  have hlt : t < wordsL.length := by
   rcases Nat.lt_or_ge t wordsL.length with h' | h'
   ·exact h'
   ·rw [List.drop_eq_nil_of_le h'] at ht; cases ht
  rw [List.drop_eq_getElem_cons hlt] at ht
  injection ht with h1 h2
  have hw : wordsN t = k := by unfold wordsN; rw [List.getD_eq_getElem?_getD, List.getElem?_eq_getElem hlt, h1]; rfl
  have e := rndL_eq l k hl
  have hlen : (rndL l k).length = 25 := by rw [e]; simp
  refine ih (rndL l k) hlen (t + 1) h2 (by simp [wordsL] at hlt; omega) (fun j hj => ?_) i hi
  rw [e]
  have : ((List.range 25).map (roundN (fun i => l.getD i 0) k)).getD j 0 = roundN (fun i => l.getD i 0) k j := by
   simp [List.getD_eq_getElem?_getD, hj]
  rw [this]
  show _ = roundN (permN a t) (wordsN t) j
  rw [hw]
  exact roundN_congr h k j
theorem sum_fast (l : List Nat) (hl : l.length < 136) : sumL l = fastSum l := by
 unfold sumL fastSum
 refine List.map_congr_left fun i hi => ?_
 have hi := List.mem_range.1 hi
 unfold sumN
 have hz : l.length / 136 = 0 := Nat.div_eq_of_lt hl
 rw [hz]
 have h := permL_get (absN (fun _ => 0) (lastBlk l) 136) ((List.range 25).map fun j => absN (fun _ => 0) (lastBlk l) 136 j) (by simp) wordsL 0 rfl (by decide) (fun j hj => by simp [List.getD_eq_getElem?_getD, hj, permN]) (i / 8) (by omega)
 rw [h]
 rfl
end Go.Bu.Sp
namespace Go.Bu.Sp
def leN (b : Nat → Nat) (base : Nat) : Nat → Nat
 | 0 => 0
 | n + 1 => leN b base n + b (base + n) * 2 ^ (8 * n)
def wN (b : Nat → Nat) (base : Nat) : Nat → Nat
 | 0 => 0
 | n + 1 => (wN b base n <<< 8) % 2 ^ 64 ||| b (base + (7 - n))
theorem leN_lt {b : Nat → Nat} {base : Nat} (h : ∀ i, b i < 256) : ∀ n, leN b base n < 2 ^ (8 * n)
 | 0 => by simp [leN]
 | n + 1 => by
  have ih := leN_lt (base := base) h n
  have h1 := h (base + n)
  have e : 2 ^ (8 * (n + 1)) = 2 ^ (8 * n) * 256 := by rw [Nat.mul_add, Nat.pow_add]
  unfold leN
  rw [e]
  have h2 : b (base + n) * 2 ^ (8 * n) ≤ 255 * 2 ^ (8 * n) := Nat.mul_le_mul_right _ (by omega)
  omega
theorem wN_eq {b : Nat → Nat} {base : Nat} (h : ∀ i, b i < 256) : ∀ n, n ≤ 8 → wN b base n < 2 ^ (8 * n) ∧ wN b base n * 2 ^ (64 - 8 * n) + leN b base (8 - n) = leN b base 8
 | 0, _ => ⟨by simp [wN], by simp [wN]⟩
 | n + 1, hn => by
  obtain ⟨h1, h2⟩ := wN_eq (base := base) h n (by omega)
  have hb := h (base + (7 - n))
  have e1 : (wN b base n <<< 8) % 2 ^ 64 = wN b base n * 256 := by
   rw [Nat.shiftLeft_eq]
   refine Nat.mod_eq_of_lt ?_
   have : wN b base n * 2 ^ 8 < 2 ^ (8 * n) * 2 ^ 8 := Nat.mul_lt_mul_of_pos_right h1 (by decide)
   rw [← Nat.pow_add] at this
   exact Nat.lt_of_lt_of_le this (Nat.pow_le_pow_right (by decide) (by omega))
  have e2 : wN b base (n + 1) = wN b base n * 256 + b (base + (7 - n)) := by
   show (wN b base n <<< 8) % 2 ^ 64 ||| b (base + (7 - n)) = _
   rw [e1]
   have := Nat.shiftLeft_add_eq_or_of_lt (i := 8) hb (wN b base n)
   rw [Nat.shiftLeft_eq] at this
   exact this.symm
  have e3 : 8 - n = (8 - (n + 1)) + 1 := by omega
  constructor
  ·rw [e2, Nat.mul_add, Nat.pow_add]
   omega
  ·rw [← h2, e2, e3]
   show _ = _ + (leN b base (8 - (n + 1)) + b (base + (8 - (n + 1))) * 2 ^ (8 * (8 - (n + 1))))
   have e4 : 2 ^ (64 - 8 * n) = 256 * 2 ^ (64 - 8 * (n + 1)) := by
    rw [show 64 - 8 * n = 8 + (64 - 8 * (n + 1)) by omega, Nat.pow_add]
   have e5 : 8 * (8 - (n + 1)) = 64 - 8 * (n + 1) := by omega
   rw [e4, e5, show 8 - (n + 1) = 7 - n by omega, Nat.add_mul, Nat.mul_assoc]
   omega
theorem wN_le {b : Nat → Nat} {base : Nat} (h : ∀ i, b i < 256) : wN b base 8 = leN b base 8 := by
 have := (wN_eq (base := base) h 8 (by decide)).2
 simpa [leN] using this
theorem wN_lt {b : Nat → Nat} {base : Nat} (h : ∀ i, b i < 256) {n : Nat} (hn : n ≤ 8) : wN b base n < 2 ^ 64 :=
 Nat.lt_of_lt_of_le (wN_eq (base := base) h n hn).1 (Nat.pow_le_pow_right (by decide) (by omega))
theorem xor_add {x y k : Nat} (h : x < 2 ^ k) : x ^^^ (y <<< k) = x + y * 2 ^ k := by
 rw [Nat.add_comm, Nat.mul_comm]
 apply Nat.eq_of_testBit_eq
 intro j
 rw [Nat.testBit_two_pow_mul_add _ h, Nat.testBit_xor, Nat.testBit_shiftLeft]
 by_cases e : j < k
 ·rw [if_pos e, decide_eq_false (by omega)]; simp
 ·rw [if_neg e, decide_eq_true (by omega), Nat.testBit_lt_two_pow (Nat.lt_of_lt_of_le h (Nat.pow_le_pow_right (by decide) (by omega)))]; simp
theorem absN_at {a b : Nat → Nat} (h : ∀ i, b i < 256) {j : Nat} : ∀ i, absN a b i j = if i ≤ 8 * j then a j else a j ^^^ leN b (8 * j) (min (i - 8 * j) 8)
 | 0 => by rw [if_pos (Nat.zero_le _)]; rfl
 | i + 1 => by
  have ih := absN_at (a := a) (j := j) h i
  show (if j = i / 8 then absN a b i j ^^^ ((b i <<< (8 * (i % 8))) % 2 ^ 64) else absN a b i j) = _
  by_cases e : j = i / 8
  ·have hq : 8 * j ≤ i := by omega
   have hr : i % 8 = i - 8 * j := by omega
   have hsm : (b i <<< (8 * (i % 8))) % 2 ^ 64 = b i <<< (8 * (i % 8)) := by
    refine Nat.mod_eq_of_lt ?_
    rw [Nat.shiftLeft_eq]
    have h1 := h i
    have : b i * 2 ^ (8 * (i % 8)) < 2 ^ 8 * 2 ^ (8 * (i % 8)) := Nat.mul_lt_mul_of_pos_right (by omega) (Nat.pow_pos (by decide))
    rw [← Nat.pow_add] at this
    exact Nat.lt_of_lt_of_le this (Nat.pow_le_pow_right (by decide) (by omega))
   rw [if_pos e, if_neg (by omega), ih, hsm, show min (i + 1 - 8 * j) 8 = (i - 8 * j) + 1 by omega]
   have hl : leN b (8 * j) (i - 8 * j + 1) = leN b (8 * j) (i - 8 * j) ^^^ (b i <<< (8 * (i % 8))) := by
    rw [hr, xor_add (leN_lt h _)]
    show leN b (8 * j) (i - 8 * j) + b (8 * j + (i - 8 * j)) * _ = _
    rw [show 8 * j + (i - 8 * j) = i by omega]
   rw [hl]
   by_cases e2 : i ≤ 8 * j
   ·rw [if_pos e2]
    have : i - 8 * j = 0 := by omega
    rw [this]
    show _ = a j ^^^ (0 ^^^ _)
    rw [Nat.zero_xor]
   ·rw [if_neg e2, show min (i - 8 * j) 8 = i - 8 * j by omega, Nat.xor_assoc]
  ·rw [if_neg e, ih]
   by_cases e2 : i ≤ 8 * j
   ·rw [if_pos e2, if_pos (by omega)]
   ·rw [if_neg e2, if_neg (by omega), show min (i + 1 - 8 * j) 8 = min (i - 8 * j) 8 by omega]
theorem absN_block {a b : Nat → Nat} (h : ∀ i, b i < 256) (base : Nat) {j : Nat} : absN a (fun i => b (base + i)) 136 j = if j < 17 then a j ^^^ wN b (base + 8 * j) 8 else a j := by
 rw [absN_at fun i => h _]
 by_cases e : j < 17
 ·rw [if_neg (by omega), if_pos e, show min (136 - 8 * j) 8 = 8 by omega, wN_le h]
  congr 1
 ·rw [if_pos (by omega), if_neg e]
end Go.Bu.Sp

