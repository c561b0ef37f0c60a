/- What a function leaves that gives back new bytes. -/
import Derived.Test.YtfioagkihgaimaaDoorK14
import Derived.Test.YtfioagkihgaimaaDoorK10
import Derived.Test.YtfioagkihgaimaaDoorK15
namespace Go.Bu.W
open Sp
section
variable {C : Ctx} {N : Nat} {S : St} {t u a id ida n c m e : Nat} {ex : Bool} {l : List Nat} {g : Nat → AV} {x : AV} {k : Value}

theorem nm1 (l : List Nat) (id : Nat) (b : Blk) : namesOK [(id, 0)] 0 l [0] [(0, b)] = true := by
  simp only [namesOK, keysOf, distinct, memb, List.map, List.all_cons, List.all_nil, List.range_zero, Nat.beq_refl]
  cases memb l id <;> rfl
theorem post_own (h : look S.tm t = some (.sl id [] 0 n c ex 1)) (hb : look S.hp id = some (.c (.arr m 1 g))) (hn : n = l.length) (hc : l.length ≤ c) (hm : m = l.length) (hg : ∀ i, i < l.length → g i = u8 (l.getD i 0)) :
    FunPost C N 0 [.tmp t] (ownB l).1 (ownB l).2 .ret S := by
  refine funPost_of (r' := (ownB l).1) (S2 := { tm := [(t, (ownB l).1)], hp := (ownB l).2, seen := [0] }) (by simp) (ent_of [(id, 0)] (nm1 _ _ _) (tm_cons h (sm_sl (by simp [look, Nat.beq_refl]) hn (by omega) hc (by simp)) tm_nil) (hp_cons rfl hb (sm_arr' hm fun i hi => hg i (by omega)) hp_nil)) (by simp [resAV, resAll, resOne, look, Nat.beq_refl])
    (.inr ⟨rfl, rfl, rfl, rfl, Nat.le_refl _, Nat.le_refl _, by simp, rfl⟩) fun _ _ h => h
theorem post_own_nil {f : Nat → AV} (h : look S.tm t = some (.dat 0 true e f)) : FunPost C N 0 [.tmp t] (ownB []).1 (ownB []).2 .ret S :=
  funPost_of (r' := (ownB []).1) (S2 := { tm := [(t, (ownB []).1)], hp := (ownB []).2, seen := [0] }) (by simp) (ent_of [] rfl (tm_cons h (sm_nil rfl rfl) tm_nil) (hp_new rfl rfl hp_nil)) (by simp [resAV, resAll, resOne, look, Nat.beq_refl])
    (.inr ⟨rfl, rfl, rfl, rfl, Nat.le_refl _, Nat.le_refl _, by simp, rfl⟩) fun _ _ h => h
theorem sims_two {y : AV} (hy : y.noid = true) : sim.sims some [(ownB l).1, y] [(ownB l).1, y] :=
  sms_cons (.inr ⟨rfl, rfl, rfl, rfl, Nat.le_refl _, Nat.le_refl _, by simp, rfl⟩) (sms_cons (.inl ⟨hy, rfl⟩) sms_nil)
theorem post_two {q q' : Int} (h : look S.tm t = some (.sl id [] 0 n c ex 1)) (hb : look S.hp id = some (.c (.arr m 1 g))) (hn : n = l.length) (hc : l.length ≤ c) (hm : m = l.length) (hg : ∀ i, i < l.length → g i = u8 (l.getD i 0))
    (h2 : look S.tm u = some (.i q')) (hq : q' = q) (htu : Nat.beq t u = false) : FunPost C N 0 [.tmp t, .tmp u] (.tup [(ownB l).1, .i q]) (ownB l).2 .ret S := by
  refine funPost_of (r' := .tup [(ownB l).1, .i q]) (S2 := { tm := [(t, (ownB l).1), (u, .i q)], hp := (ownB l).2, seen := [0] }) (by simp) (ent_of [(id, 0)] (nm1 _ _ _) (tm_cons h (sm_sl (by simp [look, Nat.beq_refl]) hn (by omega) hc (by simp)) (tm_cons h2 (sm_int hq) tm_nil)) (hp_cons rfl hb (sm_arr' hm fun i hi => hg i (by omega)) hp_nil)) (by simp [resAV, resAll, resOne, look, Nat.beq_refl, htu, noTups, noTup])
    (sm_tup (sims_two rfl)) fun _ _ h => h
theorem post_two_nil {f : Nat → AV} {q q' : Int} (h : look S.tm t = some (.dat 0 true e f)) (h2 : look S.tm u = some (.i q')) (hq : q' = q) (htu : Nat.beq t u = false) : FunPost C N 0 [.tmp t, .tmp u] (.tup [(ownB []).1, .i q]) (ownB []).2 .ret S :=
  funPost_of (r' := .tup [(ownB []).1, .i q]) (S2 := { tm := [(t, (ownB []).1), (u, .i q)], hp := (ownB []).2, seen := [0] }) (by simp) (ent_of [] rfl (tm_cons h (sm_nil rfl rfl) (tm_cons h2 (sm_int hq) tm_nil)) (hp_new rfl rfl hp_nil)) (by simp [resAV, resAll, resOne, look, Nat.beq_refl, htu, noTups, noTup])
    (sm_tup (sims_two rfl)) fun _ _ h => h
theorem nm2 (l : List Nat) (id ida : Nat) (b b' : Blk) (h : Nat.beq id ida = false) : namesOK [(id, 0), (ida, 1)] 0 l [0, 1] [(0, b), (1, b')] = true := by
  have h' : Nat.beq ida id = false := by cases hh : Nat.beq ida id with | false => rfl | true => rw [Nat.eq_of_beq_eq_true hh, Nat.beq_refl] at h; cases h
  simp only [namesOK, keysOf, distinct, memb, List.map, List.all_cons, List.all_nil, List.range_zero, Nat.beq_refl, h']
  cases memb l id <;> cases memb l ida <;> rfl
theorem post_st {q q' : Int} (h : look S.tm a = some (.ptr ida [])) (ha : look S.hp ida = some (.c (.st [.sl id [] 0 n c ex 1, .i q']))) (hb : look S.hp id = some (.c (.arr m 1 g))) (hn : n = l.length) (hc : l.length ≤ c) (hm : m = l.length) (hg : ∀ i, i < l.length → g i = u8 (l.getD i 0))
    (hq : q' = q) (hd : Nat.beq id ida = false) (hf : fitsT C t (.st [(ownB l).1, .i q]) = true) : FunPost C N 0 [.cell a t] (.st [(ownB l).1, .i q]) (ownB l).2 .ret S := by
  refine funPost_of (r' := .st [(ownB l).1, .i q]) (S2 := { tm := [(a, .ptr 1 [])], hp := [(0, .c (.arr l.length 1 (rowL l))), (1, .c (.st [(ownB l).1, .i q]))], seen := [0, 1] }) (by simp) (ent_of [(id, 0), (ida, 1)] (nm2 _ _ _ _ _ hd) (tm_cons h (sm_ptr (by simp [look, Nat.beq_refl, hd])) tm_nil) (hp_cons rfl hb (sm_arr' hm fun i hi => hg i (by omega)) (hp_cons rfl ha (sm_st (sms_cons (sm_sl (by simp [look, Nat.beq_refl]) hn (by omega) hc (by simp)) (sms_cons (sm_int hq) sms_nil))) hp_nil))) (by simp [resAV, resAll, resOne, look, Nat.beq_refl, AV.sub, hf])
    (sm_st (sims_two rfl)) fun id b hl => ?_
  cases id with
  | zero => exact hl
  | succ id => cases hl
theorem post_st_nil {f : Nat → AV} {q q' : Int} (h : look S.tm a = some (.ptr ida [])) (ha : look S.hp ida = some (.c (.st [.dat 0 true e f, .i q']))) (hq : q' = q) (hf : fitsT C t (.st [(ownB []).1, .i q]) = true) : FunPost C N 0 [.cell a t] (.st [(ownB []).1, .i q]) (ownB []).2 .ret S := by
  have hf' : fitsT C t (.st [.sl 0 [] 0 0 0 false 1, .i q]) = true := hf
  refine funPost_of (r' := .st [(ownB []).1, .i q]) (S2 := { tm := [(a, .ptr 1 [])], hp := [(0, .c (.arr 0 1 (rowL []))), (1, .c (.st [(ownB []).1, .i q]))], seen := [0, 1] }) (by simp) (ent_of [(ida, 1)] ?_ (tm_cons h (sm_ptr (by simp [look, Nat.beq_refl])) tm_nil) (hp_new rfl rfl (hp_cons rfl ha (sm_st (sms_cons (sm_nil rfl rfl) (sms_cons (sm_int hq) sms_nil))) hp_nil))) (by simp [resAV, resAll, resOne, look, Nat.beq_refl, AV.sub, hf'])
    (sm_st (sims_two rfl)) fun id b hl => ?_
  · simp only [namesOK, keysOf, distinct, memb, List.map, List.all_cons, List.all_nil, List.range_zero, Nat.beq_refl]
    cases memb S.seen ida <;> rfl
  · cases id with
    | zero => exact hl
    | succ id => cases hl
end
theorem concat_call {n e : Nat} {ex : Bool} {f : Nat → AV} (hf : Parts n f) (he : n = 0 ∨ e = 1) (hl : n < 2 ^ 46) (hn : (partsL n f).flatten.length < 2 ^ 46) : Fun C P F_concat [.dat n ex e f] [] (ownB (partsL n f).flatten).1 (ownB (partsL n f).flatten).2 := by
  have hlen : (partsL n f).length = n := by simp [partsL]
  have hget : ∀ i, i < n → (partsL n f).getD i [] = datL (f i) := fun i hi => by simp [partsL, List.getD_eq_getElem?_getD, hi]
  have h := concat_fun ex (fun i => match f i with | .dat _ x _ _ => x | _ => false) (partsL n f) (by omega) hn
  refine h.sim ⟨.inr ⟨hlen.symm, id, he, fun i hi => .inr ?_⟩, trivial⟩ trivial
  obtain ⟨m, x, e', g, h1, h2, h3⟩ := hf i hi
  dsimp only
  rw [hget i hi, h1]
  exact ⟨(bytesL_len m g).symm, id, h2, fun j hj => .inl (row_bytesL h3 j hj)⟩
end Go.Bu.W

namespace Go.Bu.W
open Sp
def numN (id : Int) (s : Nat) : Nat := (id.fdiv (2 ^ s) % 256).toNat
def num4 (id : Int) : List Nat := [numN id 24, numN id 16, numN id 8, numN id 0]
def tagB (key : List Nat) (id : Int) (c : List Nat) : List Nat := ofBytes 84 [key, num4 id, c]
def tagL (key : List Nat) (id : Int) (c : List Nat) : List Nat := sumL (tagB key id c)
def sealL (key : List Nat) (id : Int) (b : List Nat) : List Nat := mixL key id b ++ tagL key id (mixL key id b)
def cutL (c : List Nat) : List Nat := c.take (c.length - 32)
def rightB (key : List Nat) (id : Int) (c : List Nat) : Bool := decide (32 ≤ c.length) && decide (c.drop (c.length - 32) = tagL key id (cutL c))
def openL (key : List Nat) (id : Int) (c : List Nat) : List Nat := bif rightB key id c then mixL key id (cutL c) else []
def openE (key : List Nat) (id : Int) (c : List Nat) : Int := bif rightB key id c then 0 else 50
def rekeyL (old key : List Nat) (id : Int) (c : List Nat) : List Nat := bif rightB old id c then sealL key id (openL old id c) else []

def crMixB : List AV → Option (AV × List (Nat × Blk))
  | [.arr _ _ f, id, d] => some (ownB (mixL (bytesL 32 f) (asI id) (datL d)))
  | _ => none
def crTag : List AV → Option (AV × List (Nat × Blk))
  | [.arr _ _ f, id, d] => some (sumAV (tagB (bytesL 32 f) (asI id) (datL d)), [])
  | _ => none
def crSeal : List AV → Option (AV × List (Nat × Blk))
  | [.arr _ _ f, id, d] => some (ownB (sealL (bytesL 32 f) (asI id) (datL d)))
  | _ => none
def crSize : List AV → Option (AV × List (Nat × Blk))
  | [.dat n _ _ _] => some (.i (max 0 ((n : Int) - 32)), [])
  | _ => none
def crShort : List AV → Option (AV × List (Nat × Blk))
  | [.dat n _ _ f] => some (ownB ((bytesL n f).take 200))
  | _ => none
def crOpen : List AV → Option (AV × List (Nat × Blk))
  | [.arr _ _ f, id, d] => some (.tup [(ownB (openL (bytesL 32 f) (asI id) (datL d))).1, .i (openE (bytesL 32 f) (asI id) (datL d))], (ownB (openL (bytesL 32 f) (asI id) (datL d))).2)
  | _ => none
def crOpened : List AV → Option (AV × List (Nat × Blk))
  | [.arr _ _ f, id, d] => some (.st [(ownB (openL (bytesL 32 f) (asI id) (datL d))).1, .i (openE (bytesL 32 f) (asI id) (datL d))], (ownB (openL (bytesL 32 f) (asI id) (datL d))).2)
  | _ => none
def crRekey : List AV → Option (AV × List (Nat × Blk))
  | [.arr _ _ f, .arr _ _ g, id, d] => some (.tup [(ownB (rekeyL (bytesL 32 f) (bytesL 32 g) (asI id) (datL d))).1, .i (openE (bytesL 32 f) (asI id) (datL d))], (ownB (rekeyL (bytesL 32 f) (bytesL 32 g) (asI id) (datL d))).2)
  | _ => none
def crRekeyed : List AV → Option (AV × List (Nat × Blk))
  | [.arr _ _ f, .arr _ _ g, id, d] => some (.st [(ownB (rekeyL (bytesL 32 f) (bytesL 32 g) (asI id) (datL d))).1, .i (openE (bytesL 32 f) (asI id) (datL d))], (ownB (rekeyL (bytesL 32 f) (bytesL 32 g) (asI id) (datL d))).2)
  | _ => none
def crK (g : Nat) (args : List AV) (H : List (Nat × Blk)) : Option (AV × List (Nat × Blk)) :=
  sel (Nat.beq g F_smix) (crMixB args) <| sel (Nat.beq g F_tag) (crTag args) <| sel (Nat.beq g F_seal) (crSeal args) <| sel (Nat.beq g F_size) (crSize args) <|
  sel (Nat.beq g F_short) (crShort args) <| sel (Nat.beq g F_open) (crOpen args) <| sel (Nat.beq g F_opened) (crOpened args) <| sel (Nat.beq g F_rekey) (crRekey args) <|
  sel (Nat.beq g F_rekeyed) (crRekeyed args) <| crG g args H
def wayK (keep : List Nat) (nt : Nat) (cuts : List Nat) : Way := ⟨crK, fun _ => false, keep, [], nt, cuts⟩
def w_tag : Way := wayK [0, 1, 2, 3, 6, 7] 25 []
def w_seal : Way := wayK [0, 1, 2, 3, 6, 7, 8] 21 []
def w_size : Way := wayK [0, 2] 7 []
def w_short : Way := wayK [0, 2] 10 []
def w_open : Way := wayK [0, 1, 2, 3, 6, 7, 8, 27] 34 []
def w_opened : Way := wayK [0, 1, 2, 3, 6, 7, 8] 19 []
def w_rekey : Way := wayK [0, 1, 2, 3, 4, 5, 8, 9, 10, 11, 20] 26 []
def w_rekeyed : Way := wayK [0, 1, 2, 3, 4, 5, 8, 9, 10] 22 []
abbrev kyA (key : List Nat) : AV := .arr 32 1 (rowL key)
abbrev dB (ex : Bool) (b : List Nat) : AV := .dat b.length ex 1 (rowL b)

theorem tag_A (key : List Nat) (id : Int) (ex : Bool) (b : List Nat) (K : Nat) (Φ : Ex → St → Prop) :
  (Holds C P 25 [] K Φ (vc C w_tag b_tag [] (start [kyA key, .i id, dB ex b] []) lf)) =
  (((0 : Int) ≤ (24 : Int)) ∧
 (((0 : Int) ≤ (16 : Int)) ∧
 (((0 : Int) ≤ (8 : Int)) ∧
 ((((0 : Int) ≤ (0 : Int)) ∧ (((0 : Int) ≤ (32 : Int)) ∧ ((32 : Int) ≤ (32 : Int)))) ∧
 (Fun W.C W.P (32 : Nat) [(AV.v (Value.int IntKind.u8 (84 : Int))), (AV.dat (3 : Nat) false (1 : Nat) (fun (i : Nat) => (nthD [(AV.dat (32 : Nat) false (1 : Nat) (fun (i1 : Nat) => (AV.v (Value.int IntKind.u8 (((List.getD key ((0 : Nat) + i1) (0 : Nat)) : Nat) : Int))))), (AV.dat (4 : Nat) false (1 : Nat) (fun (i1 : Nat) => (nthD [(AV.v (Value.int IntKind.u8 (IntKind.wrap IntKind.u8 (bShr IntKind.i64 id (24 : Int))))), (AV.v (Value.int IntKind.u8 (IntKind.wrap IntKind.u8 (bShr IntKind.i64 id (16 : Int))))), (AV.v (Value.int IntKind.u8 (IntKind.wrap IntKind.u8 (bShr IntKind.i64 id (8 : Int))))), (AV.v (Value.int IntKind.u8 (IntKind.wrap IntKind.u8 id)))] ((0 : Nat) + i1) (AV.v (Value.tuple (List.toArray [])))))), (AV.dat (List.length b) ex (1 : Nat) (rowL b))] ((0 : Nat) + i) (AV.v (Value.tuple (List.toArray []))))))] [] (AV.arr (32 : Nat) (1 : Nat) (fun (i : Nat) => (AV.v (Value.int IntKind.u8 (((Sp.sumN (Sp.ofBytes (84 : Nat) (partsL (3 : Nat) (fun (i1 : Nat) => (nthD [(AV.dat (32 : Nat) false (1 : Nat) (fun (i2 : Nat) => (AV.v (Value.int IntKind.u8 (((List.getD key ((0 : Nat) + i2) (0 : Nat)) : Nat) : Int))))), (AV.dat (4 : Nat) false (1 : Nat) (fun (i2 : Nat) => (nthD [(AV.v (Value.int IntKind.u8 (IntKind.wrap IntKind.u8 (bShr IntKind.i64 id (24 : Int))))), (AV.v (Value.int IntKind.u8 (IntKind.wrap IntKind.u8 (bShr IntKind.i64 id (16 : Int))))), (AV.v (Value.int IntKind.u8 (IntKind.wrap IntKind.u8 (bShr IntKind.i64 id (8 : Int))))), (AV.v (Value.int IntKind.u8 (IntKind.wrap IntKind.u8 id)))] ((0 : Nat) + i2) (AV.v (Value.tuple (List.toArray [])))))), (AV.dat (List.length b) ex (1 : Nat) (rowL b))] ((0 : Nat) + i1) (AV.v (Value.tuple (List.toArray []))))))) i) : Nat) : Int))))) [] ∧
 ((∀ (i : Nat), ((i < (32 : Nat)) → True)) ∧
 ((((32 : Nat) = (32 : Nat)) ∧ (((1 : Nat) = (1 : Nat)) ∧ (∀ (i : Nat), ((i < (32 : Nat)) → ((true = true) ∧ (Bool.true = true)))))) ∧
 (Φ Ex.ret (St.mk [((0 : Nat), (AV.arr (32 : Nat) (1 : Nat) (rowL key))), ((1 : Nat), (AV.v (Value.int IntKind.i64 id))), ((2 : Nat), (AV.dat (List.length b) ex (1 : Nat) (rowL b))), ((3 : Nat), (AV.ptr (3 : Nat) [])), ((6 : Nat), (AV.ptr (6 : Nat) [])), ((7 : Nat), (AV.sl (19 : Nat) [] (0 : Nat) (4 : Nat) (4 : Nat) true (1 : Nat)))] [((3 : Nat), (Blk.c (AV.arr (32 : Nat) (1 : Nat) (rowL key)))), ((6 : Nat), (Blk.c (AV.arr (32 : Nat) (1 : Nat) (fun (i : Nat) => (AV.v (Value.int IntKind.u8 (((Sp.sumN (Sp.ofBytes (84 : Nat) (partsL (3 : Nat) (fun (i1 : Nat) => (nthD [(AV.dat (32 : Nat) false (1 : Nat) (fun (i2 : Nat) => (AV.v (Value.int IntKind.u8 (((List.getD key ((0 : Nat) + i2) (0 : Nat)) : Nat) : Int))))), (AV.dat (4 : Nat) false (1 : Nat) (fun (i2 : Nat) => (nthD [(AV.v (Value.int IntKind.u8 (IntKind.wrap IntKind.u8 (bShr IntKind.i64 id (24 : Int))))), (AV.v (Value.int IntKind.u8 (IntKind.wrap IntKind.u8 (bShr IntKind.i64 id (16 : Int))))), (AV.v (Value.int IntKind.u8 (IntKind.wrap IntKind.u8 (bShr IntKind.i64 id (8 : Int))))), (AV.v (Value.int IntKind.u8 (IntKind.wrap IntKind.u8 id)))] ((0 : Nat) + i2) (AV.v (Value.tuple (List.toArray [])))))), (AV.dat (List.length b) ex (1 : Nat) (rowL b))] ((0 : Nat) + i1) (AV.v (Value.tuple (List.toArray []))))))) i) : Nat) : Int))))))), ((19 : Nat), (Blk.c (AV.st [(AV.v (Value.int IntKind.u8 (IntKind.wrap IntKind.u8 (bShr IntKind.i64 id (24 : Int))))), (AV.v (Value.int IntKind.u8 (IntKind.wrap IntKind.u8 (bShr IntKind.i64 id (16 : Int))))), (AV.v (Value.int IntKind.u8 (IntKind.wrap IntKind.u8 (bShr IntKind.i64 id (8 : Int))))), (AV.v (Value.int IntKind.u8 (IntKind.wrap IntKind.u8 id)))]))), ((23 : Nat), (Blk.c (AV.st [(AV.sl (3 : Nat) [] (0 : Nat) (32 : Nat) (32 : Nat) true (1 : Nat)), (AV.sl (19 : Nat) [] (0 : Nat) (4 : Nat) (4 : Nat) true (1 : Nat)), (AV.dat (List.length b) ex (1 : Nat) (rowL b))])))] [(23 : Nat), (19 : Nat), (6 : Nat), (3 : Nat)]))))))))) := by kernel_rfl
theorem seal_A (key : List Nat) (id : Int) (ex : Bool) (b : List Nat) (K : Nat) (Φ : Ex → St → Prop) :
  (Holds C P 21 [] K Φ (vc C w_seal b_seal [] (start [kyA key, .i id, dB ex b] []) lf)) =
  (Fun W.C W.P (26 : Nat) [(AV.arr (32 : Nat) (1 : Nat) (rowL key)), (AV.v (Value.int IntKind.i64 id)), (AV.dat (List.length b) ex (1 : Nat) (rowL b))] [] (AV.sl (0 : Nat) [] (0 : Nat) (List.length (W.mixL (bytesL (32 : Nat) (rowL key)) id (datL (AV.dat (List.length b) ex (1 : Nat) (rowL b))))) (List.length (W.mixL (bytesL (32 : Nat) (rowL key)) id (datL (AV.dat (List.length b) ex (1 : Nat) (rowL b))))) false (1 : Nat)) [((0 : Nat), (Blk.c (AV.arr (List.length (W.mixL (bytesL (32 : Nat) (rowL key)) id (datL (AV.dat (List.length b) ex (1 : Nat) (rowL b))))) (1 : Nat) (rowL (W.mixL (bytesL (32 : Nat) (rowL key)) id (datL (AV.dat (List.length b) ex (1 : Nat) (rowL b))))))))] ∧
 (Fun W.C W.P (27 : Nat) [(AV.arr (32 : Nat) (1 : Nat) (rowL key)), (AV.v (Value.int IntKind.i64 id)), (AV.dat (List.length (W.mixL (bytesL (32 : Nat) (rowL key)) id (datL (AV.dat (List.length b) ex (1 : Nat) (rowL b))))) false (1 : Nat) (fun (i : Nat) => (AV.v (Value.int IntKind.u8 (((List.getD (W.mixL (bytesL (32 : Nat) (rowL key)) id (datL (AV.dat (List.length b) ex (1 : Nat) (rowL b)))) ((0 : Nat) + i) (0 : Nat)) : Nat) : Int)))))] [] (AV.arr (32 : Nat) (1 : Nat) (fun (i : Nat) => (AV.v (Value.int IntKind.u8 (((Sp.sumN (W.tagB (bytesL (32 : Nat) (rowL key)) id (datL (AV.dat (List.length (W.mixL (bytesL (32 : Nat) (rowL key)) id (datL (AV.dat (List.length b) ex (1 : Nat) (rowL b))))) false (1 : Nat) (fun (i1 : Nat) => (AV.v (Value.int IntKind.u8 (((List.getD (W.mixL (bytesL (32 : Nat) (rowL key)) id (datL (AV.dat (List.length b) ex (1 : Nat) (rowL b)))) ((0 : Nat) + i1) (0 : Nat)) : Nat) : Int))))))) i) : Nat) : Int))))) [] ∧
 ((∀ (i : Nat), ((i < (32 : Nat)) → True)) ∧
 ((((32 : Nat) = (32 : Nat)) ∧ (((1 : Nat) = (1 : Nat)) ∧ (∀ (i : Nat), ((i < (32 : Nat)) → ((true = true) ∧ (Bool.true = true)))))) ∧
 ((((0 : Int) ≤ (0 : Int)) ∧ (((0 : Int) ≤ (32 : Int)) ∧ ((32 : Int) ≤ (32 : Int)))) ∧
 (Fun W.C W.P (28 : Nat) [(AV.dat (2 : Nat) false (1 : Nat) (fun (i : Nat) => (nthD [(AV.dat (List.length (W.mixL (bytesL (32 : Nat) (rowL key)) id (datL (AV.dat (List.length b) ex (1 : Nat) (rowL b))))) false (1 : Nat) (fun (i1 : Nat) => (AV.v (Value.int IntKind.u8 (((List.getD (W.mixL (bytesL (32 : Nat) (rowL key)) id (datL (AV.dat (List.length b) ex (1 : Nat) (rowL b)))) ((0 : Nat) + i1) (0 : Nat)) : Nat) : Int))))), (AV.dat (32 : Nat) false (1 : Nat) (fun (i1 : Nat) => (AV.v (Value.int IntKind.u8 (((Sp.sumN (W.tagB (bytesL (32 : Nat) (rowL key)) id (datL (AV.dat (List.length (W.mixL (bytesL (32 : Nat) (rowL key)) id (datL (AV.dat (List.length b) ex (1 : Nat) (rowL b))))) false (1 : Nat) (fun (i2 : Nat) => (AV.v (Value.int IntKind.u8 (((List.getD (W.mixL (bytesL (32 : Nat) (rowL key)) id (datL (AV.dat (List.length b) ex (1 : Nat) (rowL b)))) ((0 : Nat) + i2) (0 : Nat)) : Nat) : Int))))))) ((0 : Nat) + i1)) : Nat) : Int)))))] ((0 : Nat) + i) (AV.v (Value.tuple (List.toArray []))))))] [] (AV.sl (0 : Nat) [] (0 : Nat) (List.length (List.flatten (partsL (2 : Nat) (fun (i : Nat) => (nthD [(AV.dat (List.length (W.mixL (bytesL (32 : Nat) (rowL key)) id (datL (AV.dat (List.length b) ex (1 : Nat) (rowL b))))) false (1 : Nat) (fun (i1 : Nat) => (AV.v (Value.int IntKind.u8 (((List.getD (W.mixL (bytesL (32 : Nat) (rowL key)) id (datL (AV.dat (List.length b) ex (1 : Nat) (rowL b)))) ((0 : Nat) + i1) (0 : Nat)) : Nat) : Int))))), (AV.dat (32 : Nat) false (1 : Nat) (fun (i1 : Nat) => (AV.v (Value.int IntKind.u8 (((Sp.sumN (W.tagB (bytesL (32 : Nat) (rowL key)) id (datL (AV.dat (List.length (W.mixL (bytesL (32 : Nat) (rowL key)) id (datL (AV.dat (List.length b) ex (1 : Nat) (rowL b))))) false (1 : Nat) (fun (i2 : Nat) => (AV.v (Value.int IntKind.u8 (((List.getD (W.mixL (bytesL (32 : Nat) (rowL key)) id (datL (AV.dat (List.length b) ex (1 : Nat) (rowL b)))) ((0 : Nat) + i2) (0 : Nat)) : Nat) : Int))))))) ((0 : Nat) + i1)) : Nat) : Int)))))] ((0 : Nat) + i) (AV.v (Value.tuple (List.toArray [])))))))) (List.length (List.flatten (partsL (2 : Nat) (fun (i : Nat) => (nthD [(AV.dat (List.length (W.mixL (bytesL (32 : Nat) (rowL key)) id (datL (AV.dat (List.length b) ex (1 : Nat) (rowL b))))) false (1 : Nat) (fun (i1 : Nat) => (AV.v (Value.int IntKind.u8 (((List.getD (W.mixL (bytesL (32 : Nat) (rowL key)) id (datL (AV.dat (List.length b) ex (1 : Nat) (rowL b)))) ((0 : Nat) + i1) (0 : Nat)) : Nat) : Int))))), (AV.dat (32 : Nat) false (1 : Nat) (fun (i1 : Nat) => (AV.v (Value.int IntKind.u8 (((Sp.sumN (W.tagB (bytesL (32 : Nat) (rowL key)) id (datL (AV.dat (List.length (W.mixL (bytesL (32 : Nat) (rowL key)) id (datL (AV.dat (List.length b) ex (1 : Nat) (rowL b))))) false (1 : Nat) (fun (i2 : Nat) => (AV.v (Value.int IntKind.u8 (((List.getD (W.mixL (bytesL (32 : Nat) (rowL key)) id (datL (AV.dat (List.length b) ex (1 : Nat) (rowL b)))) ((0 : Nat) + i2) (0 : Nat)) : Nat) : Int))))))) ((0 : Nat) + i1)) : Nat) : Int)))))] ((0 : Nat) + i) (AV.v (Value.tuple (List.toArray [])))))))) false (1 : Nat)) [((0 : Nat), (Blk.c (AV.arr (List.length (List.flatten (partsL (2 : Nat) (fun (i : Nat) => (nthD [(AV.dat (List.length (W.mixL (bytesL (32 : Nat) (rowL key)) id (datL (AV.dat (List.length b) ex (1 : Nat) (rowL b))))) false (1 : Nat) (fun (i1 : Nat) => (AV.v (Value.int IntKind.u8 (((List.getD (W.mixL (bytesL (32 : Nat) (rowL key)) id (datL (AV.dat (List.length b) ex (1 : Nat) (rowL b)))) ((0 : Nat) + i1) (0 : Nat)) : Nat) : Int))))), (AV.dat (32 : Nat) false (1 : Nat) (fun (i1 : Nat) => (AV.v (Value.int IntKind.u8 (((Sp.sumN (W.tagB (bytesL (32 : Nat) (rowL key)) id (datL (AV.dat (List.length (W.mixL (bytesL (32 : Nat) (rowL key)) id (datL (AV.dat (List.length b) ex (1 : Nat) (rowL b))))) false (1 : Nat) (fun (i2 : Nat) => (AV.v (Value.int IntKind.u8 (((List.getD (W.mixL (bytesL (32 : Nat) (rowL key)) id (datL (AV.dat (List.length b) ex (1 : Nat) (rowL b)))) ((0 : Nat) + i2) (0 : Nat)) : Nat) : Int))))))) ((0 : Nat) + i1)) : Nat) : Int)))))] ((0 : Nat) + i) (AV.v (Value.tuple (List.toArray [])))))))) (1 : Nat) (rowL (List.flatten (partsL (2 : Nat) (fun (i : Nat) => (nthD [(AV.dat (List.length (W.mixL (bytesL (32 : Nat) (rowL key)) id (datL (AV.dat (List.length b) ex (1 : Nat) (rowL b))))) false (1 : Nat) (fun (i1 : Nat) => (AV.v (Value.int IntKind.u8 (((List.getD (W.mixL (bytesL (32 : Nat) (rowL key)) id (datL (AV.dat (List.length b) ex (1 : Nat) (rowL b)))) ((0 : Nat) + i1) (0 : Nat)) : Nat) : Int))))), (AV.dat (32 : Nat) false (1 : Nat) (fun (i1 : Nat) => (AV.v (Value.int IntKind.u8 (((Sp.sumN (W.tagB (bytesL (32 : Nat) (rowL key)) id (datL (AV.dat (List.length (W.mixL (bytesL (32 : Nat) (rowL key)) id (datL (AV.dat (List.length b) ex (1 : Nat) (rowL b))))) false (1 : Nat) (fun (i2 : Nat) => (AV.v (Value.int IntKind.u8 (((List.getD (W.mixL (bytesL (32 : Nat) (rowL key)) id (datL (AV.dat (List.length b) ex (1 : Nat) (rowL b)))) ((0 : Nat) + i2) (0 : Nat)) : Nat) : Int))))))) ((0 : Nat) + i1)) : Nat) : Int)))))] ((0 : Nat) + i) (AV.v (Value.tuple (List.toArray [])))))))))))] ∧
 (Φ Ex.ret (St.mk [((0 : Nat), (AV.arr (32 : Nat) (1 : Nat) (rowL key))), ((1 : Nat), (AV.v (Value.int IntKind.i64 id))), ((2 : Nat), (AV.dat (List.length b) ex (1 : Nat) (rowL b))), ((3 : Nat), (AV.ptr (3 : Nat) [])), ((6 : Nat), (AV.sl (20 : Nat) [] (0 : Nat) (List.length (List.flatten (partsL (2 : Nat) (fun (i : Nat) => (nthD [(AV.dat (List.length (W.mixL (bytesL (32 : Nat) (rowL key)) id (datL (AV.dat (List.length b) ex (1 : Nat) (rowL b))))) false (1 : Nat) (fun (i1 : Nat) => (AV.v (Value.int IntKind.u8 (((List.getD (W.mixL (bytesL (32 : Nat) (rowL key)) id (datL (AV.dat (List.length b) ex (1 : Nat) (rowL b)))) ((0 : Nat) + i1) (0 : Nat)) : Nat) : Int))))), (AV.dat (32 : Nat) false (1 : Nat) (fun (i1 : Nat) => (AV.v (Value.int IntKind.u8 (((Sp.sumN (W.tagB (bytesL (32 : Nat) (rowL key)) id (datL (AV.dat (List.length (W.mixL (bytesL (32 : Nat) (rowL key)) id (datL (AV.dat (List.length b) ex (1 : Nat) (rowL b))))) false (1 : Nat) (fun (i2 : Nat) => (AV.v (Value.int IntKind.u8 (((List.getD (W.mixL (bytesL (32 : Nat) (rowL key)) id (datL (AV.dat (List.length b) ex (1 : Nat) (rowL b)))) ((0 : Nat) + i2) (0 : Nat)) : Nat) : Int))))))) ((0 : Nat) + i1)) : Nat) : Int)))))] ((0 : Nat) + i) (AV.v (Value.tuple (List.toArray [])))))))) (List.length (List.flatten (partsL (2 : Nat) (fun (i : Nat) => (nthD [(AV.dat (List.length (W.mixL (bytesL (32 : Nat) (rowL key)) id (datL (AV.dat (List.length b) ex (1 : Nat) (rowL b))))) false (1 : Nat) (fun (i1 : Nat) => (AV.v (Value.int IntKind.u8 (((List.getD (W.mixL (bytesL (32 : Nat) (rowL key)) id (datL (AV.dat (List.length b) ex (1 : Nat) (rowL b)))) ((0 : Nat) + i1) (0 : Nat)) : Nat) : Int))))), (AV.dat (32 : Nat) false (1 : Nat) (fun (i1 : Nat) => (AV.v (Value.int IntKind.u8 (((Sp.sumN (W.tagB (bytesL (32 : Nat) (rowL key)) id (datL (AV.dat (List.length (W.mixL (bytesL (32 : Nat) (rowL key)) id (datL (AV.dat (List.length b) ex (1 : Nat) (rowL b))))) false (1 : Nat) (fun (i2 : Nat) => (AV.v (Value.int IntKind.u8 (((List.getD (W.mixL (bytesL (32 : Nat) (rowL key)) id (datL (AV.dat (List.length b) ex (1 : Nat) (rowL b)))) ((0 : Nat) + i2) (0 : Nat)) : Nat) : Int))))))) ((0 : Nat) + i1)) : Nat) : Int)))))] ((0 : Nat) + i) (AV.v (Value.tuple (List.toArray [])))))))) false (1 : Nat))), ((7 : Nat), (AV.sl (12 : Nat) [] (0 : Nat) (List.length (W.mixL (bytesL (32 : Nat) (rowL key)) id (datL (AV.dat (List.length b) ex (1 : Nat) (rowL b))))) (List.length (W.mixL (bytesL (32 : Nat) (rowL key)) id (datL (AV.dat (List.length b) ex (1 : Nat) (rowL b))))) false (1 : Nat))), ((8 : Nat), (AV.ptr (8 : Nat) []))] [((3 : Nat), (Blk.c (AV.arr (32 : Nat) (1 : Nat) (rowL key)))), ((20 : Nat), (Blk.c (AV.arr (List.length (List.flatten (partsL (2 : Nat) (fun (i : Nat) => (nthD [(AV.dat (List.length (W.mixL (bytesL (32 : Nat) (rowL key)) id (datL (AV.dat (List.length b) ex (1 : Nat) (rowL b))))) false (1 : Nat) (fun (i1 : Nat) => (AV.v (Value.int IntKind.u8 (((List.getD (W.mixL (bytesL (32 : Nat) (rowL key)) id (datL (AV.dat (List.length b) ex (1 : Nat) (rowL b)))) ((0 : Nat) + i1) (0 : Nat)) : Nat) : Int))))), (AV.dat (32 : Nat) false (1 : Nat) (fun (i1 : Nat) => (AV.v (Value.int IntKind.u8 (((Sp.sumN (W.tagB (bytesL (32 : Nat) (rowL key)) id (datL (AV.dat (List.length (W.mixL (bytesL (32 : Nat) (rowL key)) id (datL (AV.dat (List.length b) ex (1 : Nat) (rowL b))))) false (1 : Nat) (fun (i2 : Nat) => (AV.v (Value.int IntKind.u8 (((List.getD (W.mixL (bytesL (32 : Nat) (rowL key)) id (datL (AV.dat (List.length b) ex (1 : Nat) (rowL b)))) ((0 : Nat) + i2) (0 : Nat)) : Nat) : Int))))))) ((0 : Nat) + i1)) : Nat) : Int)))))] ((0 : Nat) + i) (AV.v (Value.tuple (List.toArray [])))))))) (1 : Nat) (rowL (List.flatten (partsL (2 : Nat) (fun (i : Nat) => (nthD [(AV.dat (List.length (W.mixL (bytesL (32 : Nat) (rowL key)) id (datL (AV.dat (List.length b) ex (1 : Nat) (rowL b))))) false (1 : Nat) (fun (i1 : Nat) => (AV.v (Value.int IntKind.u8 (((List.getD (W.mixL (bytesL (32 : Nat) (rowL key)) id (datL (AV.dat (List.length b) ex (1 : Nat) (rowL b)))) ((0 : Nat) + i1) (0 : Nat)) : Nat) : Int))))), (AV.dat (32 : Nat) false (1 : Nat) (fun (i1 : Nat) => (AV.v (Value.int IntKind.u8 (((Sp.sumN (W.tagB (bytesL (32 : Nat) (rowL key)) id (datL (AV.dat (List.length (W.mixL (bytesL (32 : Nat) (rowL key)) id (datL (AV.dat (List.length b) ex (1 : Nat) (rowL b))))) false (1 : Nat) (fun (i2 : Nat) => (AV.v (Value.int IntKind.u8 (((List.getD (W.mixL (bytesL (32 : Nat) (rowL key)) id (datL (AV.dat (List.length b) ex (1 : Nat) (rowL b)))) ((0 : Nat) + i2) (0 : Nat)) : Nat) : Int))))))) ((0 : Nat) + i1)) : Nat) : Int)))))] ((0 : Nat) + i) (AV.v (Value.tuple (List.toArray [])))))))))))] [(20 : Nat), (19 : Nat), (8 : Nat), (12 : Nat), (3 : Nat)])))))))) := by kernel_rfl
theorem size_A (ex : Bool) (b : List Nat) (K : Nat) (Φ : Ex → St → Prop) :
  (Holds C P 7 [] K Φ (vc C w_size b_size [] (start [dB ex b] []) lf)) =
  ((I64 ((((List.length b) : Nat) : Int) - (32 : Int))) ∧
 (Φ Ex.ret (St.mk [((0 : Nat), (AV.dat (List.length b) ex (1 : Nat) (rowL b))), ((2 : Nat), (AV.v (Value.int IntKind.i64 (Max.max (0 : Int) ((((List.length b) : Nat) : Int) - (32 : Int))))))] [] []))) := by kernel_rfl
theorem short_A (ex : Bool) (b : List Nat) (K : Nat) (Φ : Ex → St → Prop) :
  (Holds C P 10 [] K Φ (vc C w_short b_short [] (start [dB ex b] []) lf)) =
  ((((0 : Int) ≤ (0 : Int)) ∧ (((0 : Int) ≤ (Min.min (((List.length b) : Nat) : Int) (200 : Int))) ∧ ((Min.min (((List.length b) : Nat) : Int) (200 : Int)) ≤ (((List.length b) : Nat) : Int)))) ∧
 (((0 : Nat) = (0 : Nat)) ∧
 ((((0 : Nat) = (0 : Nat)) ∨ ((0 : Nat) < (Int.toNat (Min.min (((List.length b) : Nat) : Int) (200 : Int))))) ∧
 (((((0 : Nat) + (Int.toNat (Min.min (((List.length b) : Nat) : Int) (200 : Int)))) * (1 : Nat)) ≤ (140737488355328 : Nat)) ∧
 (Φ Ex.ret (St.mk [((0 : Nat), (AV.dat (List.length b) ex (1 : Nat) (rowL b))), ((2 : Nat), (AV.sl (9 : Nat) [] (0 : Nat) ((0 : Nat) + (Int.toNat (Min.min (((List.length b) : Nat) : Int) (200 : Int)))) ((0 : Nat) + (Int.toNat (Min.min (((List.length b) : Nat) : Int) (200 : Int)))) false (1 : Nat)))] [((3 : Nat), (Blk.c (AV.st []))), ((9 : Nat), (Blk.c (AV.arr ((0 : Nat) + (Int.toNat (Min.min (((List.length b) : Nat) : Int) (200 : Int)))) (1 : Nat) (cat (0 : Nat) (fun (i : Nat) => (AV.v (Value.tuple (List.toArray [])))) (fun (i : Nat) => (AV.v (Value.int IntKind.u8 (((List.getD b ((0 : Nat) + i) (0 : Nat)) : Nat) : Int))))))))] [(9 : Nat), (3 : Nat)])))))) := by kernel_rfl
theorem open_A (key : List Nat) (id : Int) (ex : Bool) (b : List Nat) (K : Nat) (Φ : Ex → St → Prop) :
  (Holds C P 34 [] K Φ (vc C w_open b_open [] (start [kyA key, .i id, dB ex b] []) lf)) =
  ((I64 ((((List.length b) : Nat) : Int) - (32 : Int))) ∧
 (((decide (((((List.length b) : Nat) : Int) - (32 : Int)) < (0 : Int))) = true → 
 (Φ Ex.ret (St.mk [((0 : Nat), (AV.arr (32 : Nat) (1 : Nat) (rowL key))), ((1 : Nat), (AV.v (Value.int IntKind.i64 id))), ((2 : Nat), (AV.dat (List.length b) ex (1 : Nat) (rowL b))), ((3 : Nat), (AV.ptr (3 : Nat) [])), ((6 : Nat), (AV.dat (0 : Nat) true (0 : Nat) (fun (x : Nat) => (AV.v (Value.tuple (List.toArray [])))))), ((7 : Nat), (AV.v (Value.int IntKind.i64 (50 : Int)))), ((8 : Nat), (AV.v (Value.int IntKind.i64 ((((List.length b) : Nat) : Int) - (32 : Int))))), ((27 : Nat), (AV.v (Value.bool true)))] [((3 : Nat), (Blk.c (AV.arr (32 : Nat) (1 : Nat) (rowL key))))] [(3 : Nat)]))) ∧
 ((decide (((((List.length b) : Nat) : Int) - (32 : Int)) < (0 : Int))) = false → 
 ((((0 : Int) ≤ ((((List.length b) : Nat) : Int) - (32 : Int))) ∧ ((((((List.length b) : Nat) : Int) - (32 : Int)) ≤ (((List.length b) : Nat) : Int)) ∧ ((((List.length b) : Nat) : Int) ≤ (((List.length b) : Nat) : Int)))) ∧
  (((32 : Nat) ≤ ((List.length b) - (Int.toNat ((((List.length b) : Nat) : Int) - (32 : Int))))) ∧
  ((((0 : Int) ≤ (0 : Int)) ∧ (((0 : Int) ≤ ((((List.length b) : Nat) : Int) - (32 : Int))) ∧ (((((List.length b) : Nat) : Int) - (32 : Int)) ≤ (((List.length b) : Nat) : Int)))) ∧
  (Fun W.C W.P (27 : Nat) [(AV.arr (32 : Nat) (1 : Nat) (rowL key)), (AV.v (Value.int IntKind.i64 id)), (AV.dat (Int.toNat ((((List.length b) : Nat) : Int) - (32 : Int))) Bool.false (1 : Nat) (fun (i : Nat) => (AV.v (Value.int IntKind.u8 (((List.getD b ((0 : Nat) + i) (0 : Nat)) : Nat) : Int)))))] [] (AV.arr (32 : Nat) (1 : Nat) (fun (i : Nat) => (AV.v (Value.int IntKind.u8 (((Sp.sumN (W.tagB (bytesL (32 : Nat) (rowL key)) id (datL (AV.dat (Int.toNat ((((List.length b) : Nat) : Int) - (32 : Int))) Bool.false (1 : Nat) (fun (i1 : Nat) => (AV.v (Value.int IntKind.u8 (((List.getD b ((0 : Nat) + i1) (0 : Nat)) : Nat) : Int))))))) i) : Nat) : Int))))) [] ∧
  ((∀ (i : Nat), ((i < (32 : Nat)) → True)) ∧
  ((∀ (i : Nat), ((i < (32 : Nat)) → ((IntKind.u8 = IntKind.u8) ∧ (IntKind.u8 = IntKind.u8)))) ∧
  (((!(List.all (List.range (32 : Nat)) (fun (i : Nat) => ((((List.getD b ((Int.toNat ((((List.length b) : Nat) : Int) - (32 : Int))) + i) (0 : Nat)) : Nat) : Int) == (((Sp.sumN (W.tagB (bytesL (32 : Nat) (rowL key)) id (datL (AV.dat (Int.toNat ((((List.length b) : Nat) : Int) - (32 : Int))) Bool.false (1 : Nat) (fun (i1 : Nat) => (AV.v (Value.int IntKind.u8 (((List.getD b ((0 : Nat) + i1) (0 : Nat)) : Nat) : Int))))))) i) : Nat) : Int))))) = true → 
  (Φ Ex.ret (St.mk [((0 : Nat), (AV.arr (32 : Nat) (1 : Nat) (rowL key))), ((1 : Nat), (AV.v (Value.int IntKind.i64 id))), ((2 : Nat), (AV.dat (List.length b) ex (1 : Nat) (rowL b))), ((3 : Nat), (AV.ptr (3 : Nat) [])), ((6 : Nat), (AV.dat (0 : Nat) true (0 : Nat) (fun (x : Nat) => (AV.v (Value.tuple (List.toArray [])))))), ((7 : Nat), (AV.v (Value.int IntKind.i64 (50 : Int)))), ((8 : Nat), (AV.v (Value.int IntKind.i64 ((((List.length b) : Nat) : Int) - (32 : Int))))), ((27 : Nat), (AV.v (Value.bool true)))] [((3 : Nat), (Blk.c (AV.arr (32 : Nat) (1 : Nat) (rowL key))))] [(3 : Nat)]))) ∧
  ((!(List.all (List.range (32 : Nat)) (fun (i : Nat) => ((((List.getD b ((Int.toNat ((((List.length b) : Nat) : Int) - (32 : Int))) + i) (0 : Nat)) : Nat) : Int) == (((Sp.sumN (W.tagB (bytesL (32 : Nat) (rowL key)) id (datL (AV.dat (Int.toNat ((((List.length b) : Nat) : Int) - (32 : Int))) Bool.false (1 : Nat) (fun (i1 : Nat) => (AV.v (Value.int IntKind.u8 (((List.getD b ((0 : Nat) + i1) (0 : Nat)) : Nat) : Int))))))) i) : Nat) : Int))))) = false → 
  ((((0 : Int) ≤ (0 : Int)) ∧ (((0 : Int) ≤ ((((List.length b) : Nat) : Int) - (32 : Int))) ∧ (((((List.length b) : Nat) : Int) - (32 : Int)) ≤ (((List.length b) : Nat) : Int)))) ∧
   (Fun W.C W.P (26 : Nat) [(AV.arr (32 : Nat) (1 : Nat) (rowL key)), (AV.v (Value.int IntKind.i64 id)), (AV.dat (Int.toNat ((((List.length b) : Nat) : Int) - (32 : Int))) Bool.false (1 : Nat) (fun (i : Nat) => (AV.v (Value.int IntKind.u8 (((List.getD b ((0 : Nat) + i) (0 : Nat)) : Nat) : Int)))))] [] (AV.sl (0 : Nat) [] (0 : Nat) (List.length (W.mixL (bytesL (32 : Nat) (rowL key)) id (datL (AV.dat (Int.toNat ((((List.length b) : Nat) : Int) - (32 : Int))) Bool.false (1 : Nat) (fun (i : Nat) => (AV.v (Value.int IntKind.u8 (((List.getD b ((0 : Nat) + i) (0 : Nat)) : Nat) : Int)))))))) (List.length (W.mixL (bytesL (32 : Nat) (rowL key)) id (datL (AV.dat (Int.toNat ((((List.length b) : Nat) : Int) - (32 : Int))) Bool.false (1 : Nat) (fun (i : Nat) => (AV.v (Value.int IntKind.u8 (((List.getD b ((0 : Nat) + i) (0 : Nat)) : Nat) : Int)))))))) false (1 : Nat)) [((0 : Nat), (Blk.c (AV.arr (List.length (W.mixL (bytesL (32 : Nat) (rowL key)) id (datL (AV.dat (Int.toNat ((((List.length b) : Nat) : Int) - (32 : Int))) Bool.false (1 : Nat) (fun (i : Nat) => (AV.v (Value.int IntKind.u8 (((List.getD b ((0 : Nat) + i) (0 : Nat)) : Nat) : Int)))))))) (1 : Nat) (rowL (W.mixL (bytesL (32 : Nat) (rowL key)) id (datL (AV.dat (Int.toNat ((((List.length b) : Nat) : Int) - (32 : Int))) Bool.false (1 : Nat) (fun (i : Nat) => (AV.v (Value.int IntKind.u8 (((List.getD b ((0 : Nat) + i) (0 : Nat)) : Nat) : Int)))))))))))] ∧
   (Φ Ex.ret (St.mk [((0 : Nat), (AV.arr (32 : Nat) (1 : Nat) (rowL key))), ((1 : Nat), (AV.v (Value.int IntKind.i64 id))), ((2 : Nat), (AV.dat (List.length b) ex (1 : Nat) (rowL b))), ((3 : Nat), (AV.ptr (3 : Nat) [])), ((6 : Nat), (AV.sl (33 : Nat) [] (0 : Nat) (List.length (W.mixL (bytesL (32 : Nat) (rowL key)) id (datL (AV.dat (Int.toNat ((((List.length b) : Nat) : Int) - (32 : Int))) Bool.false (1 : Nat) (fun (i : Nat) => (AV.v (Value.int IntKind.u8 (((List.getD b ((0 : Nat) + i) (0 : Nat)) : Nat) : Int)))))))) (List.length (W.mixL (bytesL (32 : Nat) (rowL key)) id (datL (AV.dat (Int.toNat ((((List.length b) : Nat) : Int) - (32 : Int))) Bool.false (1 : Nat) (fun (i : Nat) => (AV.v (Value.int IntKind.u8 (((List.getD b ((0 : Nat) + i) (0 : Nat)) : Nat) : Int)))))))) false (1 : Nat))), ((7 : Nat), (AV.v (Value.int IntKind.i64 (0 : Int)))), ((8 : Nat), (AV.v (Value.int IntKind.i64 ((((List.length b) : Nat) : Int) - (32 : Int))))), ((27 : Nat), (AV.v (Value.bool false)))] [((3 : Nat), (Blk.c (AV.arr (32 : Nat) (1 : Nat) (rowL key)))), ((33 : Nat), (Blk.c (AV.arr (List.length (W.mixL (bytesL (32 : Nat) (rowL key)) id (datL (AV.dat (Int.toNat ((((List.length b) : Nat) : Int) - (32 : Int))) Bool.false (1 : Nat) (fun (i : Nat) => (AV.v (Value.int IntKind.u8 (((List.getD b ((0 : Nat) + i) (0 : Nat)) : Nat) : Int)))))))) (1 : Nat) (rowL (W.mixL (bytesL (32 : Nat) (rowL key)) id (datL (AV.dat (Int.toNat ((((List.length b) : Nat) : Int) - (32 : Int))) Bool.false (1 : Nat) (fun (i : Nat) => (AV.v (Value.int IntKind.u8 (((List.getD b ((0 : Nat) + i) (0 : Nat)) : Nat) : Int)))))))))))] [(33 : Nat), (3 : Nat)]))))))))))))))) := by kernel_rfl
theorem opened_A (key : List Nat) (id : Int) (ex : Bool) (b : List Nat) (K : Nat) (Φ : Ex → St → Prop) :
  (Holds C P 19 [] K Φ (vc C w_opened b_opened [] (start [kyA key, .i id, dB ex b] []) lf)) =
  (Fun W.C W.P (29 : Nat) [(AV.arr (32 : Nat) (1 : Nat) (rowL key)), (AV.v (Value.int IntKind.i64 id)), (AV.dat (List.length b) ex (1 : Nat) (rowL b))] [] (AV.tup [(AV.sl (0 : Nat) [] (0 : Nat) (List.length (W.openL (bytesL (32 : Nat) (rowL key)) id (datL (AV.dat (List.length b) ex (1 : Nat) (rowL b))))) (List.length (W.openL (bytesL (32 : Nat) (rowL key)) id (datL (AV.dat (List.length b) ex (1 : Nat) (rowL b))))) false (1 : Nat)), (AV.v (Value.int IntKind.i64 (W.openE (bytesL (32 : Nat) (rowL key)) id (datL (AV.dat (List.length b) ex (1 : Nat) (rowL b))))))]) [((0 : Nat), (Blk.c (AV.arr (List.length (W.openL (bytesL (32 : Nat) (rowL key)) id (datL (AV.dat (List.length b) ex (1 : Nat) (rowL b))))) (1 : Nat) (rowL (W.openL (bytesL (32 : Nat) (rowL key)) id (datL (AV.dat (List.length b) ex (1 : Nat) (rowL b))))))))] ∧
 ((((true = true) ∧ (Bool.true = true)) ∧ (((true = true) ∧ (Bool.true = true)) ∧ True)) ∧
 (Φ Ex.ret (St.mk [((0 : Nat), (AV.arr (32 : Nat) (1 : Nat) (rowL key))), ((1 : Nat), (AV.v (Value.int IntKind.i64 id))), ((2 : Nat), (AV.dat (List.length b) ex (1 : Nat) (rowL b))), ((3 : Nat), (AV.ptr (3 : Nat) [])), ((6 : Nat), (AV.ptr (6 : Nat) [])), ((7 : Nat), (AV.sl (13 : Nat) [] (0 : Nat) (List.length (W.openL (bytesL (32 : Nat) (rowL key)) id (datL (AV.dat (List.length b) ex (1 : Nat) (rowL b))))) (List.length (W.openL (bytesL (32 : Nat) (rowL key)) id (datL (AV.dat (List.length b) ex (1 : Nat) (rowL b))))) false (1 : Nat))), ((8 : Nat), (AV.v (Value.int IntKind.i64 (W.openE (bytesL (32 : Nat) (rowL key)) id (datL (AV.dat (List.length b) ex (1 : Nat) (rowL b)))))))] [((3 : Nat), (Blk.c (AV.arr (32 : Nat) (1 : Nat) (rowL key)))), ((6 : Nat), (Blk.c (AV.st [(AV.sl (13 : Nat) [] (0 : Nat) (List.length (W.openL (bytesL (32 : Nat) (rowL key)) id (datL (AV.dat (List.length b) ex (1 : Nat) (rowL b))))) (List.length (W.openL (bytesL (32 : Nat) (rowL key)) id (datL (AV.dat (List.length b) ex (1 : Nat) (rowL b))))) false (1 : Nat)), (AV.v (Value.int IntKind.i64 (W.openE (bytesL (32 : Nat) (rowL key)) id (datL (AV.dat (List.length b) ex (1 : Nat) (rowL b))))))]))), ((13 : Nat), (Blk.c (AV.arr (List.length (W.openL (bytesL (32 : Nat) (rowL key)) id (datL (AV.dat (List.length b) ex (1 : Nat) (rowL b))))) (1 : Nat) (rowL (W.openL (bytesL (32 : Nat) (rowL key)) id (datL (AV.dat (List.length b) ex (1 : Nat) (rowL b))))))))] [(13 : Nat), (6 : Nat), (3 : Nat)])))) := by kernel_rfl
theorem rekey_A (old key : List Nat) (id : Int) (ex : Bool) (b : List Nat) (K : Nat) (Φ : Ex → St → Prop) :
  (Holds C P 26 [] K Φ (vc C w_rekey b_rekey [] (start [kyA old, kyA key, .i id, dB ex b] []) lf)) =
  (Fun W.C W.P (29 : Nat) [(AV.arr (32 : Nat) (1 : Nat) (rowL old)), (AV.v (Value.int IntKind.i64 id)), (AV.dat (List.length b) ex (1 : Nat) (rowL b))] [] (AV.tup [(AV.sl (0 : Nat) [] (0 : Nat) (List.length (W.openL (bytesL (32 : Nat) (rowL old)) id (datL (AV.dat (List.length b) ex (1 : Nat) (rowL b))))) (List.length (W.openL (bytesL (32 : Nat) (rowL old)) id (datL (AV.dat (List.length b) ex (1 : Nat) (rowL b))))) false (1 : Nat)), (AV.v (Value.int IntKind.i64 (W.openE (bytesL (32 : Nat) (rowL old)) id (datL (AV.dat (List.length b) ex (1 : Nat) (rowL b))))))]) [((0 : Nat), (Blk.c (AV.arr (List.length (W.openL (bytesL (32 : Nat) (rowL old)) id (datL (AV.dat (List.length b) ex (1 : Nat) (rowL b))))) (1 : Nat) (rowL (W.openL (bytesL (32 : Nat) (rowL old)) id (datL (AV.dat (List.length b) ex (1 : Nat) (rowL b))))))))] ∧
 ((((W.openE (bytesL (32 : Nat) (rowL old)) id (datL (AV.dat (List.length b) ex (1 : Nat) (rowL b)))) != (0 : Int)) = true → 
 (Φ Ex.ret (St.mk [((0 : Nat), (AV.arr (32 : Nat) (1 : Nat) (rowL old))), ((1 : Nat), (AV.arr (32 : Nat) (1 : Nat) (rowL key))), ((2 : Nat), (AV.v (Value.int IntKind.i64 id))), ((3 : Nat), (AV.dat (List.length b) ex (1 : Nat) (rowL b))), ((4 : Nat), (AV.ptr (4 : Nat) [])), ((5 : Nat), (AV.ptr (5 : Nat) [])), ((8 : Nat), (AV.dat (0 : Nat) true (0 : Nat) (fun (x : Nat) => (AV.v (Value.tuple (List.toArray [])))))), ((9 : Nat), (AV.v (Value.int IntKind.i64 (W.openE (bytesL (32 : Nat) (rowL old)) id (datL (AV.dat (List.length b) ex (1 : Nat) (rowL b))))))), ((10 : Nat), (AV.sl (16 : Nat) [] (0 : Nat) (List.length (W.openL (bytesL (32 : Nat) (rowL old)) id (datL (AV.dat (List.length b) ex (1 : Nat) (rowL b))))) (List.length (W.openL (bytesL (32 : Nat) (rowL old)) id (datL (AV.dat (List.length b) ex (1 : Nat) (rowL b))))) false (1 : Nat))), ((11 : Nat), (AV.v (Value.int IntKind.i64 (W.openE (bytesL (32 : Nat) (rowL old)) id (datL (AV.dat (List.length b) ex (1 : Nat) (rowL b))))))), ((20 : Nat), (AV.v (Value.bool true)))] [((4 : Nat), (Blk.c (AV.arr (32 : Nat) (1 : Nat) (rowL old)))), ((5 : Nat), (Blk.c (AV.arr (32 : Nat) (1 : Nat) (rowL key)))), ((16 : Nat), (Blk.c (AV.arr (List.length (W.openL (bytesL (32 : Nat) (rowL old)) id (datL (AV.dat (List.length b) ex (1 : Nat) (rowL b))))) (1 : Nat) (rowL (W.openL (bytesL (32 : Nat) (rowL old)) id (datL (AV.dat (List.length b) ex (1 : Nat) (rowL b))))))))] [(16 : Nat), (5 : Nat), (4 : Nat)]))) ∧
 (((W.openE (bytesL (32 : Nat) (rowL old)) id (datL (AV.dat (List.length b) ex (1 : Nat) (rowL b)))) != (0 : Int)) = false → 
 (Fun W.C W.P (12 : Nat) [(AV.arr (32 : Nat) (1 : Nat) (rowL key)), (AV.v (Value.int IntKind.i64 id)), (AV.dat (List.length (W.openL (bytesL (32 : Nat) (rowL old)) id (datL (AV.dat (List.length b) ex (1 : Nat) (rowL b))))) false (1 : Nat) (fun (i : Nat) => (AV.v (Value.int IntKind.u8 (((List.getD (W.openL (bytesL (32 : Nat) (rowL old)) id (datL (AV.dat (List.length b) ex (1 : Nat) (rowL b)))) ((0 : Nat) + i) (0 : Nat)) : Nat) : Int)))))] [] (AV.sl (0 : Nat) [] (0 : Nat) (List.length (W.sealL (bytesL (32 : Nat) (rowL key)) id (datL (AV.dat (List.length (W.openL (bytesL (32 : Nat) (rowL old)) id (datL (AV.dat (List.length b) ex (1 : Nat) (rowL b))))) false (1 : Nat) (fun (i : Nat) => (AV.v (Value.int IntKind.u8 (((List.getD (W.openL (bytesL (32 : Nat) (rowL old)) id (datL (AV.dat (List.length b) ex (1 : Nat) (rowL b)))) ((0 : Nat) + i) (0 : Nat)) : Nat) : Int)))))))) (List.length (W.sealL (bytesL (32 : Nat) (rowL key)) id (datL (AV.dat (List.length (W.openL (bytesL (32 : Nat) (rowL old)) id (datL (AV.dat (List.length b) ex (1 : Nat) (rowL b))))) false (1 : Nat) (fun (i : Nat) => (AV.v (Value.int IntKind.u8 (((List.getD (W.openL (bytesL (32 : Nat) (rowL old)) id (datL (AV.dat (List.length b) ex (1 : Nat) (rowL b)))) ((0 : Nat) + i) (0 : Nat)) : Nat) : Int)))))))) false (1 : Nat)) [((0 : Nat), (Blk.c (AV.arr (List.length (W.sealL (bytesL (32 : Nat) (rowL key)) id (datL (AV.dat (List.length (W.openL (bytesL (32 : Nat) (rowL old)) id (datL (AV.dat (List.length b) ex (1 : Nat) (rowL b))))) false (1 : Nat) (fun (i : Nat) => (AV.v (Value.int IntKind.u8 (((List.getD (W.openL (bytesL (32 : Nat) (rowL old)) id (datL (AV.dat (List.length b) ex (1 : Nat) (rowL b)))) ((0 : Nat) + i) (0 : Nat)) : Nat) : Int)))))))) (1 : Nat) (rowL (W.sealL (bytesL (32 : Nat) (rowL key)) id (datL (AV.dat (List.length (W.openL (bytesL (32 : Nat) (rowL old)) id (datL (AV.dat (List.length b) ex (1 : Nat) (rowL b))))) false (1 : Nat) (fun (i : Nat) => (AV.v (Value.int IntKind.u8 (((List.getD (W.openL (bytesL (32 : Nat) (rowL old)) id (datL (AV.dat (List.length b) ex (1 : Nat) (rowL b)))) ((0 : Nat) + i) (0 : Nat)) : Nat) : Int)))))))))))] ∧
  (Φ Ex.ret (St.mk [((0 : Nat), (AV.arr (32 : Nat) (1 : Nat) (rowL old))), ((1 : Nat), (AV.arr (32 : Nat) (1 : Nat) (rowL key))), ((2 : Nat), (AV.v (Value.int IntKind.i64 id))), ((3 : Nat), (AV.dat (List.length b) ex (1 : Nat) (rowL b))), ((4 : Nat), (AV.ptr (4 : Nat) [])), ((5 : Nat), (AV.ptr (5 : Nat) [])), ((8 : Nat), (AV.sl (25 : Nat) [] (0 : Nat) (List.length (W.sealL (bytesL (32 : Nat) (rowL key)) id (datL (AV.dat (List.length (W.openL (bytesL (32 : Nat) (rowL old)) id (datL (AV.dat (List.length b) ex (1 : Nat) (rowL b))))) false (1 : Nat) (fun (i : Nat) => (AV.v (Value.int IntKind.u8 (((List.getD (W.openL (bytesL (32 : Nat) (rowL old)) id (datL (AV.dat (List.length b) ex (1 : Nat) (rowL b)))) ((0 : Nat) + i) (0 : Nat)) : Nat) : Int)))))))) (List.length (W.sealL (bytesL (32 : Nat) (rowL key)) id (datL (AV.dat (List.length (W.openL (bytesL (32 : Nat) (rowL old)) id (datL (AV.dat (List.length b) ex (1 : Nat) (rowL b))))) false (1 : Nat) (fun (i : Nat) => (AV.v (Value.int IntKind.u8 (((List.getD (W.openL (bytesL (32 : Nat) (rowL old)) id (datL (AV.dat (List.length b) ex (1 : Nat) (rowL b)))) ((0 : Nat) + i) (0 : Nat)) : Nat) : Int)))))))) false (1 : Nat))), ((9 : Nat), (AV.v (Value.int IntKind.i64 (0 : Int)))), ((10 : Nat), (AV.sl (16 : Nat) [] (0 : Nat) (List.length (W.openL (bytesL (32 : Nat) (rowL old)) id (datL (AV.dat (List.length b) ex (1 : Nat) (rowL b))))) (List.length (W.openL (bytesL (32 : Nat) (rowL old)) id (datL (AV.dat (List.length b) ex (1 : Nat) (rowL b))))) false (1 : Nat))), ((11 : Nat), (AV.v (Value.int IntKind.i64 (W.openE (bytesL (32 : Nat) (rowL old)) id (datL (AV.dat (List.length b) ex (1 : Nat) (rowL b))))))), ((20 : Nat), (AV.v (Value.bool false)))] [((4 : Nat), (Blk.c (AV.arr (32 : Nat) (1 : Nat) (rowL old)))), ((5 : Nat), (Blk.c (AV.arr (32 : Nat) (1 : Nat) (rowL key)))), ((25 : Nat), (Blk.c (AV.arr (List.length (W.sealL (bytesL (32 : Nat) (rowL key)) id (datL (AV.dat (List.length (W.openL (bytesL (32 : Nat) (rowL old)) id (datL (AV.dat (List.length b) ex (1 : Nat) (rowL b))))) false (1 : Nat) (fun (i : Nat) => (AV.v (Value.int IntKind.u8 (((List.getD (W.openL (bytesL (32 : Nat) (rowL old)) id (datL (AV.dat (List.length b) ex (1 : Nat) (rowL b)))) ((0 : Nat) + i) (0 : Nat)) : Nat) : Int)))))))) (1 : Nat) (rowL (W.sealL (bytesL (32 : Nat) (rowL key)) id (datL (AV.dat (List.length (W.openL (bytesL (32 : Nat) (rowL old)) id (datL (AV.dat (List.length b) ex (1 : Nat) (rowL b))))) false (1 : Nat) (fun (i : Nat) => (AV.v (Value.int IntKind.u8 (((List.getD (W.openL (bytesL (32 : Nat) (rowL old)) id (datL (AV.dat (List.length b) ex (1 : Nat) (rowL b)))) ((0 : Nat) + i) (0 : Nat)) : Nat) : Int)))))))))))] [(25 : Nat), (16 : Nat), (5 : Nat), (4 : Nat)])))))) := by kernel_rfl
theorem rekeyed_A (old key : List Nat) (id : Int) (ex : Bool) (b : List Nat) (K : Nat) (Φ : Ex → St → Prop) :
  (Holds C P 22 [] K Φ (vc C w_rekeyed b_rekeyed [] (start [kyA old, kyA key, .i id, dB ex b] []) lf)) =
  (Fun W.C W.P (36 : Nat) [(AV.arr (32 : Nat) (1 : Nat) (rowL old)), (AV.arr (32 : Nat) (1 : Nat) (rowL key)), (AV.v (Value.int IntKind.i64 id)), (AV.dat (List.length b) ex (1 : Nat) (rowL b))] [] (AV.tup [(AV.sl (0 : Nat) [] (0 : Nat) (List.length (W.rekeyL (bytesL (32 : Nat) (rowL old)) (bytesL (32 : Nat) (rowL key)) id (datL (AV.dat (List.length b) ex (1 : Nat) (rowL b))))) (List.length (W.rekeyL (bytesL (32 : Nat) (rowL old)) (bytesL (32 : Nat) (rowL key)) id (datL (AV.dat (List.length b) ex (1 : Nat) (rowL b))))) false (1 : Nat)), (AV.v (Value.int IntKind.i64 (W.openE (bytesL (32 : Nat) (rowL old)) id (datL (AV.dat (List.length b) ex (1 : Nat) (rowL b))))))]) [((0 : Nat), (Blk.c (AV.arr (List.length (W.rekeyL (bytesL (32 : Nat) (rowL old)) (bytesL (32 : Nat) (rowL key)) id (datL (AV.dat (List.length b) ex (1 : Nat) (rowL b))))) (1 : Nat) (rowL (W.rekeyL (bytesL (32 : Nat) (rowL old)) (bytesL (32 : Nat) (rowL key)) id (datL (AV.dat (List.length b) ex (1 : Nat) (rowL b))))))))] ∧
 ((((true = true) ∧ (Bool.true = true)) ∧ (((true = true) ∧ (Bool.true = true)) ∧ True)) ∧
 (Φ Ex.ret (St.mk [((0 : Nat), (AV.arr (32 : Nat) (1 : Nat) (rowL old))), ((1 : Nat), (AV.arr (32 : Nat) (1 : Nat) (rowL key))), ((2 : Nat), (AV.v (Value.int IntKind.i64 id))), ((3 : Nat), (AV.dat (List.length b) ex (1 : Nat) (rowL b))), ((4 : Nat), (AV.ptr (4 : Nat) [])), ((5 : Nat), (AV.ptr (5 : Nat) [])), ((8 : Nat), (AV.ptr (8 : Nat) [])), ((9 : Nat), (AV.sl (16 : Nat) [] (0 : Nat) (List.length (W.rekeyL (bytesL (32 : Nat) (rowL old)) (bytesL (32 : Nat) (rowL key)) id (datL (AV.dat (List.length b) ex (1 : Nat) (rowL b))))) (List.length (W.rekeyL (bytesL (32 : Nat) (rowL old)) (bytesL (32 : Nat) (rowL key)) id (datL (AV.dat (List.length b) ex (1 : Nat) (rowL b))))) false (1 : Nat))), ((10 : Nat), (AV.v (Value.int IntKind.i64 (W.openE (bytesL (32 : Nat) (rowL old)) id (datL (AV.dat (List.length b) ex (1 : Nat) (rowL b)))))))] [((4 : Nat), (Blk.c (AV.arr (32 : Nat) (1 : Nat) (rowL old)))), ((5 : Nat), (Blk.c (AV.arr (32 : Nat) (1 : Nat) (rowL key)))), ((8 : Nat), (Blk.c (AV.st [(AV.sl (16 : Nat) [] (0 : Nat) (List.length (W.rekeyL (bytesL (32 : Nat) (rowL old)) (bytesL (32 : Nat) (rowL key)) id (datL (AV.dat (List.length b) ex (1 : Nat) (rowL b))))) (List.length (W.rekeyL (bytesL (32 : Nat) (rowL old)) (bytesL (32 : Nat) (rowL key)) id (datL (AV.dat (List.length b) ex (1 : Nat) (rowL b))))) false (1 : Nat)), (AV.v (Value.int IntKind.i64 (W.openE (bytesL (32 : Nat) (rowL old)) id (datL (AV.dat (List.length b) ex (1 : Nat) (rowL b))))))]))), ((16 : Nat), (Blk.c (AV.arr (List.length (W.rekeyL (bytesL (32 : Nat) (rowL old)) (bytesL (32 : Nat) (rowL key)) id (datL (AV.dat (List.length b) ex (1 : Nat) (rowL b))))) (1 : Nat) (rowL (W.rekeyL (bytesL (32 : Nat) (rowL old)) (bytesL (32 : Nat) (rowL key)) id (datL (AV.dat (List.length b) ex (1 : Nat) (rowL b))))))))] [(16 : Nat), (8 : Nat), (5 : Nat), (4 : Nat)])))) := by kernel_rfl

/-! Lists and rows. -/
theorem datL0 (l : List Nat) (ex : Bool) : datL (.dat l.length ex 1 (fun i => u8 (l.getD (0 + i) 0))) = l := bytesL_of rfl fun i _ => by rw [Nat.zero_add]
theorem datR (l : List Nat) (ex : Bool) : datL (.dat l.length ex 1 (rowL l)) = l := bytesL_row l
theorem datC (l : List Nat) (ex : Bool) {m : Nat} (hm : m ≤ l.length) : datL (.dat m ex 1 (fun i => u8 (l.getD (0 + i) 0))) = l.take m :=
  bytesL_of (by simp; omega) fun i hi => by rw [Nat.zero_add]; simp [List.getD_eq_getElem?_getD, hi]
theorem datS (l : List Nat) (ex : Bool) : datL (.dat 32 ex 1 (fun i => u8 (sumN l (0 + i)))) = sumL l := bytesL_of (by simp [sumL]) fun i hi => by rw [Nat.zero_add, sumL_get _ hi]
theorem kyl {key : List Nat} (hk : key.length = 32) : bytesL 32 (rowL key) = key := by rw [← hk]; exact bytesL_row key
theorem kyl0 {key : List Nat} (hk : key.length = 32) : datL (.dat 32 false 1 (fun i => u8 (key.getD (0 + i) 0))) = key := by rw [← hk]; exact datL0 key false
theorem partsL2 {X Y D : AV} : partsL 2 (fun i => nthD [X, Y] (0 + i) D) = [datL X, datL Y] := rfl
theorem partsL3 {X Y Z D : AV} : partsL 3 (fun i => nthD [X, Y, Z] (0 + i) D) = [datL X, datL Y, datL Z] := rfl
theorem parts_two {X Y D : AV} (hX : ∃ m ex e g, X = .dat m ex e g ∧ (m = 0 ∨ e = 1) ∧ B8 m g) (hY : ∃ m ex e g, Y = .dat m ex e g ∧ (m = 0 ∨ e = 1) ∧ B8 m g) : Parts 2 (fun i => nthD [X, Y] (0 + i) D) := fun j hj => by
  match j, hj with
  | 0, _ => exact hX
  | 1, _ => exact hY
theorem parts_three {X Y Z D : AV} (hX : ∃ m ex e g, X = .dat m ex e g ∧ (m = 0 ∨ e = 1) ∧ B8 m g) (hY : ∃ m ex e g, Y = .dat m ex e g ∧ (m = 0 ∨ e = 1) ∧ B8 m g) (hZ : ∃ m ex e g, Z = .dat m ex e g ∧ (m = 0 ∨ e = 1) ∧ B8 m g) : Parts 3 (fun i => nthD [X, Y, Z] (0 + i) D) := fun j hj => by
  match j, hj with
  | 0, _ => exact hX
  | 1, _ => exact hY
  | 2, _ => exact hZ
theorem b8_get {l : List Nat} (h : Small l) (n o : Nat) : B8 n (fun i => u8 (l.getD (o + i) 0)) := fun i _ => ⟨rfl, getD_small h _⟩
theorem b8_sum0 (l : List Nat) (n o : Nat) : B8 n (fun i => u8 (sumN l (o + i))) := fun i _ => ⟨rfl, sumN_lt l _⟩
theorem small_take {l : List Nat} (h : Small l) (n : Nat) : Small (l.take n) := fun x hx => h x (List.mem_of_mem_take hx)
theorem post_own_eq {C : Ctx} {N : Nat} {S : St} {t id : Nat} {l L : List Nat} {ex : Bool} (h : look S.tm t = some (.sl id [] 0 L.length L.length ex 1)) (hb : look S.hp id = some (.c (.arr L.length 1 (rowL L)))) (hL : L = l) : FunPost C N 0 [.tmp t] (ownB l).1 (ownB l).2 .ret S := by
  subst hL
  exact post_own h hb rfl (Nat.le_refl _) rfl fun _ _ => rfl
theorem post_two_eq {C : Ctx} {N : Nat} {S : St} {t u id : Nat} {l L : List Nat} {ex : Bool} {q q' : Int} (h : look S.tm t = some (.sl id [] 0 L.length L.length ex 1)) (hb : look S.hp id = some (.c (.arr L.length 1 (rowL L)))) (hL : L = l) (h2 : look S.tm u = some (.i q')) (hq : q' = q) (htu : Nat.beq t u = false) : FunPost C N 0 [.tmp t, .tmp u] (.tup [(ownB l).1, .i q]) (ownB l).2 .ret S := by
  subst hL
  exact post_two h hb rfl (Nat.le_refl _) rfl (fun _ _ => rfl) h2 hq htu
theorem post_st_eq {C : Ctx} {N : Nat} {S : St} {a t ida id : Nat} {l L : List Nat} {ex : Bool} {q q' : Int} (h : look S.tm a = some (.ptr ida [])) (ha : look S.hp ida = some (.c (.st [.sl id [] 0 L.length L.length ex 1, .i q']))) (hb : look S.hp id = some (.c (.arr L.length 1 (rowL L)))) (hL : L = l) (hq : q' = q) (hd : Nat.beq id ida = false) (hf : fitsT C t (.st [(ownB l).1, .i q]) = true) : FunPost C N 0 [.cell a t] (.st [(ownB l).1, .i q]) (ownB l).2 .ret S := by
  subst hL
  exact post_st h ha hb rfl (Nat.le_refl _) rfl (fun _ _ => rfl) hq hd hf
theorem simD {n e : Nat} {ex : Bool} {g : Nat → AV} (hg : B8 n g) (he : n = 0 ∨ e = 1) : simR some (.dat n ex e g) (dB ex (bytesL n g)) := .inr ⟨(bytesL_len n g).symm, id, he, fun i hi => .inl (row_bytesL hg i hi)⟩
theorem simK {f : Nat → AV} (hf : B8 32 f) : simR some (.arr 32 1 f) (kyA (bytesL 32 f)) := sm_arr fun i hi => row_bytesL hf i hi

/-! Numbers in four bytes. -/
theorem num_val (id : Int) (s : Nat) (hs : s ≤ 64) : IntKind.wrap .u8 (bShr .i64 id (s : Int)) = ((numN id s : Nat) : Int) := by
  unfold numN bShr
  rw [Int.toNat_natCast, Int.toNat_of_nonneg (Int.emod_nonneg _ (by decide))]
  simp only [IntKind.bits, Nat.min_eq_left hs, IntKind.wrap, IntKind.signed]
  rfl
theorem numN_lt (id : Int) (s : Nat) : numN id s < 256 := by unfold numN; omega
theorem num_val0 (id : Int) : IntKind.wrap .u8 id = ((numN id 0 : Nat) : Int) := by
  have := num_val id 0 (by decide)
  rw [← this]
  simp [bShr, Int.fdiv_one]
def nums (id : Int) : List AV := [.v (.int .u8 (IntKind.wrap .u8 (bShr .i64 id 24))), .v (.int .u8 (IntKind.wrap .u8 (bShr .i64 id 16))), .v (.int .u8 (IntKind.wrap .u8 (bShr .i64 id 8))), .v (.int .u8 (IntKind.wrap .u8 id))]
theorem nums_get (id : Int) (D : AV) (i : Nat) (hi : i < 4) : nthD (nums id) (0 + i) D = u8 ((num4 id).getD i 0) := by
  rw [Nat.zero_add]
  match i, hi with
  | 0, _ => exact congrArg (fun z => AV.v (.int .u8 z)) (num_val id 24 (by decide))
  | 1, _ => exact congrArg (fun z => AV.v (.int .u8 z)) (num_val id 16 (by decide))
  | 2, _ => exact congrArg (fun z => AV.v (.int .u8 z)) (num_val id 8 (by decide))
  | 3, _ => exact congrArg (fun z => AV.v (.int .u8 z)) (num_val0 id)
theorem small_num4 (id : Int) : Small (num4 id) := small_cons (numN_lt _ _) (small_cons (numN_lt _ _) (small_cons (numN_lt _ _) (small_cons (numN_lt _ _) small_nil)))
theorem datN (id : Int) (D : AV) : datL (.dat 4 false 1 (fun i => nthD (nums id) (0 + i) D)) = num4 id := bytesL_of rfl fun i hi => nums_get id D i hi
theorem b8_nums (id : Int) (D : AV) : B8 4 (fun i => nthD (nums id) (0 + i) D) := fun i hi => by
  show nthD (nums id) (0 + i) D = u8 (dN (fun i => nthD (nums id) (0 + i) D) i) ∧ _
  have e : dN (fun i => nthD (nums id) (0 + i) D) i = (num4 id).getD i 0 := by
    show asN (nthD (nums id) (0 + i) D) = _
    rw [nums_get id D i hi]; rfl
  rw [e]
  exact ⟨nums_get id D i hi, getD_small (small_num4 id) i⟩

/-! The walks. -/
theorem tag_fun (key : List Nat) (id : Int) (ex : Bool) (b : List Nat) (hk : key.length = 32) (hs : Small key) (hid : I64 id) (hb : Small b) (hn : b.length < 2 ^ 41) : Fun C P F_tag [kyA key, .i id, dB ex b] [] (sumAV (tagB key id b)) [] := by
  refine in_tag (W := w_tag) rfl 0 (by simp) rfl (fun id h => absurd rfl h) ?_
  refine of_eq (tag_A key id ex b 0 _) ?_
  refine ⟨(by first | omega | decide | (unfold I64; omega)), (by first | omega | decide | (unfold I64; omega)), (by first | omega | decide | (unfold I64; omega)), (by first | omega | decide | (unfold I64; omega)), of_call (by decide) (parts_three ⟨_, _, _, _, rfl, .inr rfl, b8_get hs 32 0⟩ ⟨_, _, _, _, rfl, .inr rfl, b8_nums id _⟩ ⟨_, _, _, _, rfl, .inr rfl, B8_row hb _⟩) (.inr rfl) ?_, fun _ _ => trivial, ⟨rfl, rfl, fun _ _ => ⟨rfl, rfl⟩⟩, post_cell rfl rfl (sm_arr fun i hi => ?_) rfl⟩
  · show (ofBytes 84 (partsL 3 (fun i => nthD [_, .dat 4 false 1 (fun i => nthD (nums id) (0 + i) _), _] (0 + i) _))).length < _
    rw [partsL3, kyl0 hk, datN, datR]
    simp [ofBytes, eightL, hk, num4]
    omega
  · show u8 (sumN (ofBytes 84 (partsL 3 (fun i => nthD [_, .dat 4 false 1 (fun i => nthD (nums id) (0 + i) _), _] (0 + i) _))) i) = _
    rw [partsL3, kyl0 hk, datN, datR]
    rfl
theorem tag_call {n e : Nat} {ex : Bool} {f g : Nat → AV} {id : Int} (hf : B8 32 f) (hid : I64 id) (hg : B8 n g) (he : n = 0 ∨ e = 1) (hn : n < 2 ^ 41) : Fun C P F_tag [.arr 32 1 f, .i id, .dat n ex e g] [] (sumAV (tagB (bytesL 32 f) id (bytesL n g))) [] :=
  (tag_fun (bytesL 32 f) id ex (bytesL n g) (bytesL_len _ _) (small_bytesL hf) hid (small_bytesL hg) (by rw [bytesL_len]; exact hn)).sim ⟨simK hf, sm_same rfl, simD hg he, trivial⟩ trivial
theorem smix_call {n e : Nat} {ex : Bool} {f g : Nat → AV} {id : Int} (hf : B8 32 f) (hid : I64 id) (hg : B8 n g) (he : n = 0 ∨ e = 1) (hn : n < 2 ^ 40) : Fun C P F_smix [.arr 32 1 f, .i id, .dat n ex e g] [] (ownB (mixL (bytesL 32 f) id (bytesL n g))).1 (ownB (mixL (bytesL 32 f) id (bytesL n g))).2 :=
  (smix_fun hf hid (small_bytesL hg) (by rw [bytesL_len]; exact hn)).sim ⟨sm_arr fun _ _ => rfl, sm_same rfl, simD hg he, trivial⟩ trivial
theorem seal_fun (key : List Nat) (id : Int) (ex : Bool) (b : List Nat) (hk : key.length = 32) (hs : Small key) (hid : I64 id) (hb : Small b) (hn : b.length < 2 ^ 40) : Fun C P F_seal [kyA key, .i id, dB ex b] [] (ownB (sealL key id b)).1 (ownB (sealL key id b)).2 := by
  refine in_seal (W := w_seal) rfl 0 (by simp) rfl (fun id h => absurd rfl h) ?_
  refine of_eq (seal_A key id ex b 0 _) ?_
  have hm : Small (mixL (bytesL 32 (rowL key)) id (datL (.dat b.length ex 1 (rowL b)))) := small_mixL _ _ (by rw [datR]; exact hb)
  have hl : (mixL (bytesL 32 (rowL key)) id (datL (.dat b.length ex 1 (rowL b)))).length = b.length := by rw [mixL_len, datR]
  refine ⟨smix_call (B8_row hs 32) hid (B8_row hb _) (.inr rfl) hn, tag_call (B8_row hs 32) hid (b8_get hm _ 0) (.inr rfl) (by rw [hl]; omega), fun _ _ => trivial, ⟨rfl, rfl, fun _ _ => ⟨rfl, rfl⟩⟩, (by first | omega | decide | (unfold I64; omega)),
    concat_call (parts_two ⟨_, _, _, _, rfl, .inr rfl, b8_get hm _ 0⟩ ⟨_, _, _, _, rfl, .inr rfl, b8_sum0 _ _ 0⟩) (.inr rfl) (by decide) ?_, post_own_eq rfl rfl ?_⟩
  · rw [partsL2, datL0, datS]
    simp [hl, sumL]
    omega
  · rw [partsL2, datL0, datS, kyl hk, datR]
    simp [sealL, tagL]
theorem sealL_len (key : List Nat) (id : Int) (b : List Nat) : (sealL key id b).length = b.length + 32 := by simp [sealL, mixL_len, tagL, sumL]
theorem small_sealL (key : List Nat) (id : Int) {b : List Nat} (h : Small b) : Small (sealL key id b) := small_append (small_mixL _ _ h) (small_sumL _)
theorem seal_call {n e : Nat} {ex : Bool} {f g : Nat → AV} {id : Int} (hf : B8 32 f) (hid : I64 id) (hg : B8 n g) (he : n = 0 ∨ e = 1) (hn : n < 2 ^ 40) : Fun C P F_seal [.arr 32 1 f, .i id, .dat n ex e g] [] (ownB (sealL (bytesL 32 f) id (bytesL n g))).1 (ownB (sealL (bytesL 32 f) id (bytesL n g))).2 :=
  (seal_fun (bytesL 32 f) id ex (bytesL n g) (bytesL_len _ _) (small_bytesL hf) hid (small_bytesL hg) (by rw [bytesL_len]; exact hn)).sim ⟨simK hf, sm_same rfl, simD hg he, trivial⟩ trivial
end Go.Bu.W

namespace Go.Bu.W
open Sp
theorem size_fun (ex : Bool) (b : List Nat) (hn : b.length < 2 ^ 60) : Fun C P F_size [dB ex b] [] (.i (max 0 ((b.length : Int) - 32))) [] := by
  refine in_size (W := w_size) rfl 0 (by simp) rfl (fun id h => absurd rfl h) ?_
  exact of_eq (size_A ex b 0 _) ⟨(by first | omega | decide | (unfold I64; omega)), post_tmp rfl (sm_int rfl)⟩
theorem size_call {n e : Nat} {ex : Bool} {g : Nat → AV} (hg : B8 n g) (he : n = 0 ∨ e = 1) (hn : n < 2 ^ 60) : Fun C P F_size [.dat n ex e g] [] (.i (max 0 ((n : Int) - 32))) [] := by
  have h := size_fun ex (bytesL n g) (by rw [bytesL_len]; exact hn)
  rw [bytesL_len] at h
  exact h.sim ⟨.inr ⟨(bytesL_len n g).symm, id, he, fun i hi => .inl (row_bytesL hg i hi)⟩, trivial⟩ trivial
theorem short_fun (ex : Bool) (b : List Nat) : Fun C P F_short [dB ex b] [] (ownB (b.take 200)).1 (ownB (b.take 200)).2 := by
  refine in_short (W := w_short) rfl 0 (by simp) rfl (fun id h => absurd rfl h) ?_
  have e : (min ((b.length : Nat) : Int) 200).toNat = (b.take 200).length := by simp; omega
  refine of_eq (short_A ex b 0 _) ?_
  rw [e]
  refine ⟨(by first | omega | decide | (unfold I64; omega)), rfl, (by first | omega | decide | (unfold I64; omega)), ?_, post_own (l := b.take 200) rfl rfl ?_ ?_ ?_ fun i hi => ?_⟩
  · simp; omega
  · simp
  · simp
  · simp
  · have hi' : i < min 200 b.length := by simpa using hi
    simp only [List.getD_eq_getElem?_getD, List.getElem?_take]
    have : i < 200 := by omega
    simp [cat, this]
theorem short_call {n e : Nat} {ex : Bool} {g : Nat → AV} (hg : B8 n g) (he : n = 0 ∨ e = 1) : Fun C P F_short [.dat n ex e g] [] (ownB ((bytesL n g).take 200)).1 (ownB ((bytesL n g).take 200)).2 :=
  (short_fun ex (bytesL n g)).sim ⟨.inr ⟨(bytesL_len n g).symm, id, he, fun i hi => .inl (row_bytesL hg i hi)⟩, trivial⟩ trivial

theorem right_no {key : List Nat} {id : Int} {c : List Nat} (h : rightB key id c = false) : openL key id c = [] ∧ openE key id c = 50 := by simp [openL, openE, h]
theorem right_yes {key : List Nat} {id : Int} {c : List Nat} (h : rightB key id c = true) : openL key id c = mixL key id (cutL c) ∧ openE key id c = 0 := by simp [openL, openE, h]
/-- A tag, number by number. -/
theorem all_tag {c : List Nat} (h : 32 ≤ c.length) (B : List Nat) : ((List.range 32).all fun i => (((c.getD (c.length - 32 + i) 0 : Nat) : Int) == ((sumN B i : Nat) : Int))) = decide (c.drop (c.length - 32) = sumL B) := by
  by_cases e : c.drop (c.length - 32) = sumL B
  · rw [decide_eq_true e, List.all_eq_true]
    intro i hi
    have hi := List.mem_range.1 hi
    rw [← sumL_get B hi, ← e]
    simp [List.getD_eq_getElem?_getD]
  · rw [decide_eq_false e]
    refine Bool.eq_false_iff.2 fun ha => e ?_
    rw [List.all_eq_true] at ha
    apply List.ext_getElem
    · simp [sumL]; omega
    · intro i h1 h2
      have hi : i < 32 := by simpa [sumL] using h2
      have := ha i (List.mem_range.2 hi)
      have h3 : c.getD (c.length - 32 + i) 0 = sumN B i := by
        have := (beq_iff_eq).1 this
        exact_mod_cast this
      rw [← sumL_get B hi] at h3
      simp only [List.getD_eq_getElem?_getD] at h3
      rw [List.getElem?_eq_getElem (by omega), List.getElem?_eq_getElem h2] at h3
      simpa using h3
theorem open_fun (key : List Nat) (id : Int) (ex : Bool) (b : List Nat) (hk : key.length = 32) (hs : Small key) (hid : I64 id) (hb : Small b) (hn : b.length < 2 ^ 40) :
    Fun C P F_open [kyA key, .i id, dB ex b] [] (.tup [(ownB (openL key id b)).1, .i (openE key id b)]) (ownB (openL key id b)).2 := by
  refine in_open (W := w_open) rfl 0 (by simp) rfl (fun id h => absurd rfl h) ?_
  refine of_eq (open_A key id ex b 0 _) ?_
  refine ⟨(by first | omega | decide | (unfold I64; omega)), fun h => ?_, fun h => ?_⟩
  · simp only [decide_eq_true_eq] at h
    have hr : rightB key id b = false := by unfold rightB; rw [decide_eq_false (by omega)]; rfl
    rw [(right_no hr).1, (right_no hr).2]
    exact post_two_nil rfl rfl rfl rfl
  · simp only [decide_eq_false_iff_not] at h
    have h32 : 32 ≤ b.length := by omega
    have e : ((b.length : Int) - 32).toNat = b.length - 32 := by omega
    rw [e]
    have hc : ∀ ex, datL (.dat (b.length - 32) ex 1 (fun i => u8 (b.getD (0 + i) 0))) = cutL b := fun ex => datC b ex (by omega)
    refine ⟨(by first | omega | decide | (unfold I64; omega)), (by first | omega | decide | (unfold I64; omega)), (by first | omega | decide | (unfold I64; omega)), tag_call (B8_row hs 32) hid (b8_get hb _ 0) (.inr rfl) (by first | omega | decide | (unfold I64; omega)), fun _ _ => trivial, fun _ _ => ⟨rfl, rfl⟩, ?_⟩
    have hmx := smix_call (f := rowL key) (g := fun i => u8 (b.getD (0 + i) 0)) (n := b.length - 32) (ex := false) (B8_row hs 32) hid (b8_get hb _ 0) (.inr rfl) (by first | omega | decide | (unfold I64; omega))
    have hc2 : bytesL (b.length - 32) (fun i => u8 (b.getD (0 + i) 0)) = cutL b := hc false
    rw [kyl hk, hc2] at hmx
    rw [all_tag h32, kyl hk, hc]
    refine ⟨fun h2 => ?_, fun h2 => ⟨(by first | omega | decide | (unfold I64; omega)), hmx, ?_⟩⟩
    · have h3 : decide (b.drop (b.length - 32) = sumL (tagB key id (cutL b))) = false := by simpa using h2
      have hr : rightB key id b = false := by unfold rightB tagL; rw [h3, Bool.and_false]
      rw [(right_no hr).1, (right_no hr).2]
      exact post_two_nil rfl rfl rfl rfl
    · have h3 : decide (b.drop (b.length - 32) = sumL (tagB key id (cutL b))) = true := by simpa using h2
      have hr : rightB key id b = true := by unfold rightB tagL; rw [h3, decide_eq_true h32]; rfl
      rw [(right_yes hr).1, (right_yes hr).2]
      exact post_two_eq rfl rfl rfl rfl rfl rfl
theorem openL_len (key : List Nat) (id : Int) (c : List Nat) : (openL key id c).length ≤ c.length := by
  unfold openL
  cases rightB key id c with
  | false => simp
  | true => simp [mixL_len, cutL]
theorem small_openL (key : List Nat) (id : Int) {c : List Nat} (h : Small c) : Small (openL key id c) := by
  unfold openL
  cases rightB key id c with
  | false => exact small_nil
  | true => exact small_mixL _ _ (small_take h _)
theorem open_call {n e : Nat} {ex : Bool} {f g : Nat → AV} {id : Int} (hf : B8 32 f) (hid : I64 id) (hg : B8 n g) (he : n = 0 ∨ e = 1) (hn : n < 2 ^ 40) :
    Fun C P F_open [.arr 32 1 f, .i id, .dat n ex e g] [] (.tup [(ownB (openL (bytesL 32 f) id (bytesL n g))).1, .i (openE (bytesL 32 f) id (bytesL n g))]) (ownB (openL (bytesL 32 f) id (bytesL n g))).2 :=
  (open_fun (bytesL 32 f) id ex (bytesL n g) (bytesL_len _ _) (small_bytesL hf) hid (small_bytesL hg) (by rw [bytesL_len]; exact hn)).sim ⟨simK hf, sm_same rfl, simD hg he, trivial⟩ trivial
theorem opened_fun (key : List Nat) (id : Int) (ex : Bool) (b : List Nat) (hk : key.length = 32) (hs : Small key) (hid : I64 id) (hb : Small b) (hn : b.length < 2 ^ 40) :
    Fun C P F_opened [kyA key, .i id, dB ex b] [] (.st [(ownB (openL key id b)).1, .i (openE key id b)]) (ownB (openL key id b)).2 := by
  refine in_opened (W := w_opened) rfl 0 (by simp) rfl (fun id h => absurd rfl h) ?_
  refine of_eq (opened_A key id ex b 0 _) ?_
  refine ⟨open_call (B8_row hs 32) hid (B8_row hb _) (.inr rfl) hn, ⟨⟨rfl, rfl⟩, ⟨rfl, rfl⟩, trivial⟩, ?_⟩
  rw [kyl hk, datR]
  exact post_st_eq rfl rfl rfl rfl rfl rfl rfl
theorem opened_call {n e : Nat} {ex : Bool} {f g : Nat → AV} {id : Int} (hf : B8 32 f) (hid : I64 id) (hg : B8 n g) (he : n = 0 ∨ e = 1) (hn : n < 2 ^ 40) :
    Fun C P F_opened [.arr 32 1 f, .i id, .dat n ex e g] [] (.st [(ownB (openL (bytesL 32 f) id (bytesL n g))).1, .i (openE (bytesL 32 f) id (bytesL n g))]) (ownB (openL (bytesL 32 f) id (bytesL n g))).2 :=
  (opened_fun (bytesL 32 f) id ex (bytesL n g) (bytesL_len _ _) (small_bytesL hf) hid (small_bytesL hg) (by rw [bytesL_len]; exact hn)).sim ⟨simK hf, sm_same rfl, simD hg he, trivial⟩ trivial
theorem rekeyL_no {old key : List Nat} {id : Int} {c : List Nat} (h : rightB old id c = false) : rekeyL old key id c = [] := by simp [rekeyL, h]
theorem rekeyL_yes {old key : List Nat} {id : Int} {c : List Nat} (h : rightB old id c = true) : rekeyL old key id c = sealL key id (openL old id c) := by simp [rekeyL, h]
theorem rekey_fun (old key : List Nat) (id : Int) (ex : Bool) (b : List Nat) (ho : old.length = 32) (hos : Small old) (hk : key.length = 32) (hs : Small key) (hid : I64 id) (hb : Small b) (hn : b.length < 2 ^ 40) :
    Fun C P F_rekey [kyA old, kyA key, .i id, dB ex b] [] (.tup [(ownB (rekeyL old key id b)).1, .i (openE old id b)]) (ownB (rekeyL old key id b)).2 := by
  refine in_rekey (W := w_rekey) rfl 0 (by simp) rfl (fun id h => absurd rfl h) ?_
  refine of_eq (rekey_A old key id ex b 0 _) ?_
  refine ⟨open_call (B8_row hos 32) hid (B8_row hb _) (.inr rfl) hn, ?_⟩
  have hL : Small (openL old id b) := small_openL _ _ hb
  have hl := openL_len old id b
  rw [kyl ho, datR]
  refine ⟨fun h => ?_, fun h => ⟨seal_call (B8_row hs 32) hid (b8_get hL _ 0) (.inr rfl) (by omega), ?_⟩⟩
  · have hr : rightB old id b = false := by
      refine Bool.eq_false_iff.2 fun hr => ?_
      rw [(right_yes hr).2] at h
      simp at h
    rw [rekeyL_no hr, (right_no hr).2]
    exact post_two_nil rfl rfl rfl rfl
  · have hr : rightB old id b = true := by
      cases hr : rightB old id b with
      | true => rfl
      | false => rw [(right_no hr).2] at h; simp at h
    rw [rekeyL_yes hr, (right_yes hr).2]
    refine post_two_eq rfl rfl ?_ rfl rfl rfl
    rw [datL0, kyl hk]
theorem rekeyL_len (old key : List Nat) (id : Int) (c : List Nat) : (rekeyL old key id c).length ≤ c.length + 32 := by
  unfold rekeyL
  have := openL_len old id c
  cases rightB old id c with
  | false => simp
  | true => simp [sealL_len]; omega
theorem small_rekeyL (old key : List Nat) (id : Int) {c : List Nat} (h : Small c) : Small (rekeyL old key id c) := by
  unfold rekeyL
  cases rightB old id c with
  | false => exact small_nil
  | true => exact small_sealL _ _ (small_openL _ _ h)
theorem rekey_call {n e : Nat} {ex : Bool} {f f2 g : Nat → AV} {id : Int} (hf : B8 32 f) (hf2 : B8 32 f2) (hid : I64 id) (hg : B8 n g) (he : n = 0 ∨ e = 1) (hn : n < 2 ^ 40) :
    Fun C P F_rekey [.arr 32 1 f, .arr 32 1 f2, .i id, .dat n ex e g] [] (.tup [(ownB (rekeyL (bytesL 32 f) (bytesL 32 f2) id (bytesL n g))).1, .i (openE (bytesL 32 f) id (bytesL n g))]) (ownB (rekeyL (bytesL 32 f) (bytesL 32 f2) id (bytesL n g))).2 :=
  (rekey_fun (bytesL 32 f) (bytesL 32 f2) id ex (bytesL n g) (bytesL_len _ _) (small_bytesL hf) (bytesL_len _ _) (small_bytesL hf2) hid (small_bytesL hg) (by rw [bytesL_len]; exact hn)).sim ⟨simK hf, simK hf2, sm_same rfl, simD hg he, trivial⟩ trivial
theorem rekeyed_fun (old key : List Nat) (id : Int) (ex : Bool) (b : List Nat) (ho : old.length = 32) (hos : Small old) (hk : key.length = 32) (hs : Small key) (hid : I64 id) (hb : Small b) (hn : b.length < 2 ^ 40) :
    Fun C P F_rekeyed [kyA old, kyA key, .i id, dB ex b] [] (.st [(ownB (rekeyL old key id b)).1, .i (openE old id b)]) (ownB (rekeyL old key id b)).2 := by
  refine in_rekeyed (W := w_rekeyed) rfl 0 (by simp) rfl (fun id h => absurd rfl h) ?_
  refine of_eq (rekeyed_A old key id ex b 0 _) ?_
  refine ⟨rekey_call (B8_row hos 32) (B8_row hs 32) hid (B8_row hb _) (.inr rfl) hn, ⟨⟨rfl, rfl⟩, ⟨rfl, rfl⟩, trivial⟩, ?_⟩
  rw [kyl ho, kyl hk, datR]
  exact post_st_eq rfl rfl rfl rfl rfl rfl rfl
theorem rekeyed_call {n e : Nat} {ex : Bool} {f f2 g : Nat → AV} {id : Int} (hf : B8 32 f) (hf2 : B8 32 f2) (hid : I64 id) (hg : B8 n g) (he : n = 0 ∨ e = 1) (hn : n < 2 ^ 40) :
    Fun C P F_rekeyed [.arr 32 1 f, .arr 32 1 f2, .i id, .dat n ex e g] [] (.st [(ownB (rekeyL (bytesL 32 f) (bytesL 32 f2) id (bytesL n g))).1, .i (openE (bytesL 32 f) id (bytesL n g))]) (ownB (rekeyL (bytesL 32 f) (bytesL 32 f2) id (bytesL n g))).2 :=
  (rekeyed_fun (bytesL 32 f) (bytesL 32 f2) id ex (bytesL n g) (bytesL_len _ _) (small_bytesL hf) (bytesL_len _ _) (small_bytesL hf2) hid (small_bytesL hg) (by rw [bytesL_len]; exact hn)).sim ⟨simK hf, simK hf2, sm_same rfl, simD hg he, trivial⟩ trivial
end Go.Bu.W

namespace Go.Bu.W
open Sp
def crNoise : List AV → Option (AV × List (Nat × Blk))
  | [.arr _ _ f, id, d] => some (ownB (mixL (bytesL 32 f) (asI id) (datL d)))
  | _ => none
def crParts : List AV → Option (AV × List (Nat × Blk))
  | [.arr _ _ f, id, d] => some (.sl 0 [] 0 3 3 false 1, [(0, .c (.st [.sl 1 [] 0 32 32 false 1, .sl 2 [] 0 4 4 false 1, d])), (1, .c (.arr 32 1 (rowL (bytesL 32 f)))), (2, .c (.st (nums (asI id))))])
  | _ => none
def crRight : List AV → Option (AV × List (Nat × Blk))
  | [.arr _ _ f, id, d] => some (.sb (rightB (bytesL 32 f) (asI id) (datL d)), [])
  | _ => none
def crRKey : List AV → Option (AV × List (Nat × Blk))
  | [x] => some (.arr 32 1 (rowL (List.replicate 32 (asN x))), [])
  | _ => none
def crSame : List AV → Option (AV × List (Nat × Blk))
  | [.st [a, p], .st [b, q]] => some (.sb (decide (datL a = datL b) && decide (asI p = asI q)), [])
  | _ => none
def crR5 (g : Nat) (args : List AV) (H : List (Nat × Blk)) : Option (AV × List (Nat × Blk)) :=
  sel (Nat.beq g F_noise) (crNoise args) <| sel (Nat.beq g F_parts) (crParts args) <| sel (Nat.beq g F_rtag) (crTag args) <| sel (Nat.beq g F_right) (crRight args) <|
  sel (Nat.beq g F_rseal) (crSeal args) <| sel (Nat.beq g F_rsize) (crSize args) <| sel (Nat.beq g F_openin) (crOpened args) <| sel (Nat.beq g F_rekeyin) (crRekeyed args) <|
  sel (Nat.beq g F_rkey) (crRKey args) <| sel (Nat.beq g F_same) (crSame args) <| sel (Nat.beq g F_rstream) (crRStream args) <| sel (Nat.beq g F_rof) (crOf args) <| crK g args H
def wayQ (keep : List Nat) (nt : Nat) (cuts : List Nat) : Way := ⟨crR5, fun _ => false, keep, [], nt, cuts⟩
def w_noise : Way := wayQ [0, 1, 2, 3, 6, 7, 8, 9, 19] 35 []
def w_parts : Way := wayQ [0, 1, 2, 3, 6, 7, 8, 11] 35 []
def w_rtag : Way := wayQ [0, 1, 2, 3, 6] 12 []
def w_right : Way := wayQ [0, 1, 2, 3, 6, 7, 8, 9, 14, 22, 34] 35 []
def w_rseal : Way := wayQ [0, 1, 2, 3, 6, 7, 8, 9, 19] 29 []
def w_rsize : Way := wayQ [0, 2] 7 []
def w_openin : Way := wayQ [0, 1, 2, 3, 6, 11] 22 []
def w_rekeyin : Way := wayQ [0, 1, 2, 3, 4, 5, 8, 9, 16] 24 []
def w_rkey : Way := wayQ [0, 2, 3, 4, 7] 14 []
def w_same : Way := wayQ [0, 1, 2, 3, 4] 19 []
def I_noise (key : List Nat) (id : Int) (ex : Bool) (b : List Nat) (i : Nat) : St := { tm := [(2, dB ex b), (7, .sl 7 [] 0 i i false 1), (8, .sl 8 [] 0 b.length (upN b.length) false 1), (9, i64 i)], hp := [(7, .c (.arr i 1 (rowL (mixL key id b)))), (8, .c (ab (upN b.length) (streamN key id (upN b.length))))], seen := [7, 8] }
def I_parts (key : List Nat) (id : Int) (ex : Bool) (b : List Nat) (i : Nat) : St := { tm := [(1, .i id), (2, dB ex b), (3, .ptr 3 []), (7, .sl 7 [] 0 i i false 1), (8, i64 i)], hp := [(3, .c (kyA key)), (7, .c (.arr i 1 (rowL key)))], seen := [3, 7] }
def I_right (key : List Nat) (id : Int) (ex : Bool) (b : List Nat) (i : Nat) : St := { tm := [(2, dB ex b), (7, .i ((b.length : Int) - 32)), (8, .ptr 8 []), (9, i64 i)], hp := [(8, .c (sumAV (tagB key id (cutL b))))], seen := [8] }
def I_rseal (key : List Nat) (id : Int) (b : List Nat) (i : Nat) : St := { tm := [(7, .sl 7 [] 0 (b.length + i) (b.length + i) false 1), (8, .ptr 8 []), (9, i64 i)], hp := [(7, .c (.arr (b.length + i) 1 (rowL (sealL key id b)))), (8, .c (sumAV (tagB key id (mixL key id b))))], seen := [7, 8] }
def I_rkey (n : Nat) (i : Nat) : St := { tm := [(0, u8 n), (2, .ptr 2 []), (3, .ptr 3 []), (4, i64 i)], hp := [(2, .c (zb 32)), (3, .c (ab 32 (fun j => if j < i then n else 0)))], seen := [2, 3] }

theorem noise_A (key : List Nat) (id : Int) (ex : Bool) (b : List Nat) (K : Nat) (Φ : Ex → St → Prop) :
  (Holds C P 35 [] K Φ (vc C w_noise b_noise [] (start [kyA key, .i id, dB ex b] []) lf)) =
  (Fun W.C W.P (18 : Nat) [(AV.arr (32 : Nat) (1 : Nat) (rowL key)), (AV.v (Value.int IntKind.i64 id)), (AV.v (Value.int IntKind.i64 (((List.length b) : Nat) : Int)))] [] (AV.sl (0 : Nat) [] (0 : Nat) (Int.toNat (((List.length b) : Nat) : Int)) (W.upN (((List.length b) : Nat) : Int)) false (1 : Nat)) [((0 : Nat), (Blk.c (AV.arr (W.upN (((List.length b) : Nat) : Int)) (1 : Nat) (fun (i : Nat) => (AV.v (Value.int IntKind.u8 (((W.streamN (bytesL (32 : Nat) (rowL key)) id (W.upN (((List.length b) : Nat) : Int)) i) : Nat) : Int)))))))] ∧
 (LoopOK W.C W.P (35 : Nat) [] K (bodyAt b_noise [1, 1, 0, 1, 0]) (St.mk [((0 : Nat), (AV.arr (32 : Nat) (1 : Nat) (rowL key))), ((1 : Nat), (AV.v (Value.int IntKind.i64 id))), ((2 : Nat), (AV.dat (List.length b) ex (1 : Nat) (rowL b))), ((3 : Nat), (AV.ptr (3 : Nat) [])), ((6 : Nat), (AV.dat (0 : Nat) true (0 : Nat) (fun (x : Nat) => (AV.v (Value.tuple (List.toArray [])))))), ((7 : Nat), (AV.sl (10 : Nat) [] (0 : Nat) (0 : Nat) (0 : Nat) true (1 : Nat))), ((8 : Nat), (AV.sl (15 : Nat) [] (0 : Nat) (Int.toNat (((List.length b) : Nat) : Int)) (W.upN (((List.length b) : Nat) : Int)) false (1 : Nat))), ((9 : Nat), (AV.v (Value.int IntKind.i64 (0 : Int))))] [((3 : Nat), (Blk.c (AV.arr (32 : Nat) (1 : Nat) (rowL key)))), ((10 : Nat), (Blk.c (AV.st []))), ((15 : Nat), (Blk.c (AV.arr (W.upN (((List.length b) : Nat) : Int)) (1 : Nat) (fun (i : Nat) => (AV.v (Value.int IntKind.u8 (((W.streamN (bytesL (32 : Nat) (rowL key)) id (W.upN (((List.length b) : Nat) : Int)) i) : Nat) : Int)))))))] [(15 : Nat), (10 : Nat), (3 : Nat)]) (fun (e : Ex) (S' : St) => Holds W.C W.P (35 : Nat) [] K Φ (after W.C w_noise b_noise [1, 1, 0, 1, 0] [] lf e S')))) := by kernel_rfl
noncomputable abbrev bd_noise_0 : Code := bodyAt (b_noise) [1, 1, 0, 1, 0]
theorem ok_noise_0 : codeOK bd_noise_0 = true := by kernel_rfl
noncomputable abbrev rest_noise_0 (K : Nat) (Φ : Ex → St → Prop) : Ex → St → Prop := fun e S' => Holds C P 35 [] K Φ (after C w_noise (b_noise) [1, 1, 0, 1, 0] [] lf e S')
theorem noise_L0 (key : List Nat) (id : Int) (ex : Bool) (b : List Nat) (i : Nat) (K : Nat) (Φ : Ex → St → Prop) :
  (Holds C P 35 [] K (RoundQ C 35 [] K (I_noise key id ex b) (fun i => i ≤ b.length) (fun i => b.length - i) ((fun i => b.length - i) (i)) (rest_noise_0 K Φ)) (vc C w_noise bd_noise_0 [] ((I_noise key id ex b) (i)) lf)) =
  (((decide (((i : Nat) : Int) < (((List.length b) : Nat) : Int))) = true → 
 ((((0 : Int) ≤ ((i : Nat) : Int)) ∧ (((i : Nat) : Int) < (((List.length b) : Nat) : Int))) ∧
  ((((0 : Int) ≤ ((i : Nat) : Int)) ∧ (((i : Nat) : Int) < (((List.length b) : Nat) : Int))) ∧
  ((((i + (1 : Nat)) * (1 : Nat)) ≤ (140737488355328 : Nat)) ∧
  ((I64 (((i + 1) : Nat) : Int)) ∧
  ((RoundQ C 35 [] K (I_noise key id ex b) (fun i => i ≤ b.length) (fun i => b.length - i) ((fun i => b.length - i) (i)) (rest_noise_0 K Φ)) Ex.normal (St.mk [((2 : Nat), (AV.dat (List.length b) ex (1 : Nat) (rowL b))), ((7 : Nat), (AV.sl (33 : Nat) [] (0 : Nat) (i + (1 : Nat)) (i + (1 : Nat)) false (1 : Nat))), ((8 : Nat), (AV.sl (8 : Nat) [] (0 : Nat) (List.length b) (W.upN (((List.length b) : Nat) : Int)) false (1 : Nat))), ((9 : Nat), (AV.v (Value.int IntKind.i64 (((i + 1) : Nat) : Int)))), ((19 : Nat), (AV.v (Value.bool true)))] [((8 : Nat), (Blk.c (AV.arr (W.upN (((List.length b) : Nat) : Int)) (1 : Nat) (fun (i1 : Nat) => (AV.v (Value.int IntKind.u8 (((W.streamN key id (W.upN (((List.length b) : Nat) : Int)) i1) : Nat) : Int))))))), ((32 : Nat), (Blk.c (AV.st [(AV.v (Value.int IntKind.u8 (bXor IntKind.u8 (((List.getD b i (0 : Nat)) : Nat) : Int) (((W.streamN key id (W.upN (((List.length b) : Nat) : Int)) ((0 : Nat) + i)) : Nat) : Int))))]))), ((33 : Nat), (Blk.c (AV.arr (i + (1 : Nat)) (1 : Nat) (cat i (fun (i1 : Nat) => (AV.v (Value.int IntKind.u8 (((List.getD (W.mixL key id b) ((0 : Nat) + i1) (0 : Nat)) : Nat) : Int)))) (fun (i1 : Nat) => (nthD [(AV.v (Value.int IntKind.u8 (bXor IntKind.u8 (((List.getD b i (0 : Nat)) : Nat) : Int) (((W.streamN key id (W.upN (((List.length b) : Nat) : Int)) ((0 : Nat) + i)) : Nat) : Int))))] ((0 : Nat) + i1) (AV.v (Value.tuple (List.toArray [])))))))))] [(33 : Nat), (32 : Nat), (7 : Nat), (8 : Nat)]))))))) ∧
 ((decide (((i : Nat) : Int) < (((List.length b) : Nat) : Int))) = false → 
 (Φ Ex.ret (St.mk [((2 : Nat), (AV.dat (List.length b) ex (1 : Nat) (rowL b))), ((6 : Nat), (AV.sl (7 : Nat) [] (0 : Nat) i i false (1 : Nat))), ((7 : Nat), (AV.sl (7 : Nat) [] (0 : Nat) i i false (1 : Nat))), ((8 : Nat), (AV.sl (8 : Nat) [] (0 : Nat) (List.length b) (W.upN (((List.length b) : Nat) : Int)) false (1 : Nat))), ((9 : Nat), (AV.v (Value.int IntKind.i64 ((i : Nat) : Int)))), ((19 : Nat), (AV.v (Value.bool false)))] [((7 : Nat), (Blk.c (AV.arr i (1 : Nat) (rowL (W.mixL key id b))))), ((8 : Nat), (Blk.c (AV.arr (W.upN (((List.length b) : Nat) : Int)) (1 : Nat) (fun (i1 : Nat) => (AV.v (Value.int IntKind.u8 (((W.streamN key id (W.upN (((List.length b) : Nat) : Int)) i1) : Nat) : Int)))))))] [(7 : Nat), (8 : Nat)])))) := by kernel_rfl
theorem parts_A (key : List Nat) (id : Int) (ex : Bool) (b : List Nat) (K : Nat) (Φ : Ex → St → Prop) :
  (Holds C P 35 [] K Φ (vc C w_parts b_parts [] (start [kyA key, .i id, dB ex b] []) lf)) =
  (LoopOK W.C W.P (35 : Nat) [] K (bodyAt b_parts [1, 1, 0, 1, 0]) (St.mk [((0 : Nat), (AV.arr (32 : Nat) (1 : Nat) (rowL key))), ((1 : Nat), (AV.v (Value.int IntKind.i64 id))), ((2 : Nat), (AV.dat (List.length b) ex (1 : Nat) (rowL b))), ((3 : Nat), (AV.ptr (3 : Nat) [])), ((6 : Nat), (AV.dat (0 : Nat) true (0 : Nat) (fun (x : Nat) => (AV.v (Value.tuple (List.toArray [])))))), ((7 : Nat), (AV.sl (9 : Nat) [] (0 : Nat) (0 : Nat) (0 : Nat) true (1 : Nat))), ((8 : Nat), (AV.v (Value.int IntKind.i64 (0 : Int))))] [((3 : Nat), (Blk.c (AV.arr (32 : Nat) (1 : Nat) (rowL key)))), ((9 : Nat), (Blk.c (AV.st [])))] [(9 : Nat), (3 : Nat)]) (fun (e : Ex) (S' : St) => Holds W.C W.P (35 : Nat) [] K Φ (after W.C w_parts b_parts [1, 1, 0, 1, 0] [] lf e S'))) := by kernel_rfl
noncomputable abbrev bd_parts_0 : Code := bodyAt (b_parts) [1, 1, 0, 1, 0]
theorem ok_parts_0 : codeOK bd_parts_0 = true := by kernel_rfl
noncomputable abbrev rest_parts_0 (K : Nat) (Φ : Ex → St → Prop) : Ex → St → Prop := fun e S' => Holds C P 35 [] K Φ (after C w_parts (b_parts) [1, 1, 0, 1, 0] [] lf e S')
theorem parts_L0 (key : List Nat) (id : Int) (ex : Bool) (b : List Nat) (i : Nat) (K : Nat) (Φ : Ex → St → Prop) :
  (Holds C P 35 [] K (RoundQ C 35 [] K (I_parts key id ex b) (fun i => i ≤ 32) (fun i => 32 - i) ((fun i => 32 - i) (i)) (rest_parts_0 K Φ)) (vc C w_parts bd_parts_0 [] ((I_parts key id ex b) (i)) lf)) =
  (((decide (((i : Nat) : Int) < (32 : Int))) = true → 
 ((((0 : Int) ≤ ((i : Nat) : Int)) ∧ (((i : Nat) : Int) < (32 : Int))) ∧
  ((((i + (1 : Nat)) * (1 : Nat)) ≤ (140737488355328 : Nat)) ∧
  ((I64 (((i + 1) : Nat) : Int)) ∧
  ((RoundQ C 35 [] K (I_parts key id ex b) (fun i => i ≤ 32) (fun i => 32 - i) ((fun i => 32 - i) (i)) (rest_parts_0 K Φ)) Ex.normal (St.mk [((1 : Nat), (AV.v (Value.int IntKind.i64 id))), ((2 : Nat), (AV.dat (List.length b) ex (1 : Nat) (rowL b))), ((3 : Nat), (AV.ptr (3 : Nat) [])), ((7 : Nat), (AV.sl (19 : Nat) [] (0 : Nat) (i + (1 : Nat)) (i + (1 : Nat)) false (1 : Nat))), ((8 : Nat), (AV.v (Value.int IntKind.i64 (((i + 1) : Nat) : Int)))), ((11 : Nat), (AV.v (Value.bool true)))] [((3 : Nat), (Blk.c (AV.arr (32 : Nat) (1 : Nat) (rowL key)))), ((18 : Nat), (Blk.c (AV.st [(AV.v (Value.int IntKind.u8 (((List.getD key i (0 : Nat)) : Nat) : Int)))]))), ((19 : Nat), (Blk.c (AV.arr (i + (1 : Nat)) (1 : Nat) (cat i (fun (i1 : Nat) => (AV.v (Value.int IntKind.u8 (((List.getD key ((0 : Nat) + i1) (0 : Nat)) : Nat) : Int)))) (fun (i1 : Nat) => (nthD [(AV.v (Value.int IntKind.u8 (((List.getD key i (0 : Nat)) : Nat) : Int)))] ((0 : Nat) + i1) (AV.v (Value.tuple (List.toArray [])))))))))] [(19 : Nat), (18 : Nat), (3 : Nat), (7 : Nat)])))))) ∧
 ((decide (((i : Nat) : Int) < (32 : Int))) = false → 
 (((0 : Int) ≤ (24 : Int)) ∧
  (((0 : Int) ≤ (16 : Int)) ∧
  (((0 : Int) ≤ (8 : Int)) ∧
  (Φ Ex.ret (St.mk [((1 : Nat), (AV.v (Value.int IntKind.i64 id))), ((2 : Nat), (AV.dat (List.length b) ex (1 : Nat) (rowL b))), ((3 : Nat), (AV.ptr (3 : Nat) [])), ((6 : Nat), (AV.sl (34 : Nat) [] (0 : Nat) (3 : Nat) (3 : Nat) true (1 : Nat))), ((7 : Nat), (AV.sl (7 : Nat) [] (0 : Nat) i i false (1 : Nat))), ((8 : Nat), (AV.v (Value.int IntKind.i64 ((i : Nat) : Int)))), ((11 : Nat), (AV.v (Value.bool false)))] [((3 : Nat), (Blk.c (AV.arr (32 : Nat) (1 : Nat) (rowL key)))), ((7 : Nat), (Blk.c (AV.arr i (1 : Nat) (rowL key)))), ((32 : Nat), (Blk.c (AV.st [(AV.v (Value.int IntKind.u8 (IntKind.wrap IntKind.u8 (bShr IntKind.i64 id (24 : Int))))), (AV.v (Value.int IntKind.u8 (IntKind.wrap IntKind.u8 (bShr IntKind.i64 id (16 : Int))))), (AV.v (Value.int IntKind.u8 (IntKind.wrap IntKind.u8 (bShr IntKind.i64 id (8 : Int))))), (AV.v (Value.int IntKind.u8 (IntKind.wrap IntKind.u8 id)))]))), ((34 : Nat), (Blk.c (AV.st [(AV.sl (7 : Nat) [] (0 : Nat) i i false (1 : Nat)), (AV.sl (32 : Nat) [] (0 : Nat) (4 : Nat) (4 : Nat) true (1 : Nat)), (AV.dat (List.length b) ex (1 : Nat) (rowL b))])))] [(34 : Nat), (32 : Nat), (3 : Nat), (7 : Nat)]))))))) := by kernel_rfl
theorem rtag_A (key : List Nat) (id : Int) (ex : Bool) (b : List Nat) (K : Nat) (Φ : Ex → St → Prop) :
  (Holds C P 12 [] K Φ (vc C w_rtag b_rtag [] (start [kyA key, .i id, dB ex b] []) lf)) =
  (Fun W.C W.P (31 : Nat) [(AV.arr (32 : Nat) (1 : Nat) (rowL key)), (AV.v (Value.int IntKind.i64 id)), (AV.dat (List.length b) ex (1 : Nat) (rowL b))] [] (AV.sl (0 : Nat) [] (0 : Nat) (3 : Nat) (3 : Nat) false (1 : Nat)) [((0 : Nat), (Blk.c (AV.st [(AV.sl (1 : Nat) [] (0 : Nat) (32 : Nat) (32 : Nat) false (1 : Nat)), (AV.sl (2 : Nat) [] (0 : Nat) (4 : Nat) (4 : Nat) false (1 : Nat)), (AV.dat (List.length b) ex (1 : Nat) (rowL b))]))), ((1 : Nat), (Blk.c (AV.arr (32 : Nat) (1 : Nat) (rowL (bytesL (32 : Nat) (rowL key)))))), ((2 : Nat), (Blk.c (AV.st [(AV.v (Value.int IntKind.u8 (IntKind.wrap IntKind.u8 (bShr IntKind.i64 id (24 : Int))))), (AV.v (Value.int IntKind.u8 (IntKind.wrap IntKind.u8 (bShr IntKind.i64 id (16 : Int))))), (AV.v (Value.int IntKind.u8 (IntKind.wrap IntKind.u8 (bShr IntKind.i64 id (8 : Int))))), (AV.v (Value.int IntKind.u8 (IntKind.wrap IntKind.u8 id)))])))] ∧
 (Fun W.C W.P (30 : Nat) [(AV.v (Value.int IntKind.u8 (84 : Int))), (AV.dat (3 : Nat) false (1 : Nat) (fun (i : Nat) => (nthD [(AV.dat (32 : Nat) false (1 : Nat) (fun (i1 : Nat) => (AV.v (Value.int IntKind.u8 (((List.getD (bytesL (32 : Nat) (rowL key)) ((0 : Nat) + i1) (0 : Nat)) : Nat) : Int))))), (AV.dat (4 : Nat) false (1 : Nat) (fun (i1 : Nat) => (nthD [(AV.v (Value.int IntKind.u8 (IntKind.wrap IntKind.u8 (bShr IntKind.i64 id (24 : Int))))), (AV.v (Value.int IntKind.u8 (IntKind.wrap IntKind.u8 (bShr IntKind.i64 id (16 : Int))))), (AV.v (Value.int IntKind.u8 (IntKind.wrap IntKind.u8 (bShr IntKind.i64 id (8 : Int))))), (AV.v (Value.int IntKind.u8 (IntKind.wrap IntKind.u8 id)))] ((0 : Nat) + i1) (AV.v (Value.tuple (List.toArray [])))))), (AV.dat (List.length b) ex (1 : Nat) (rowL b))] ((0 : Nat) + i) (AV.v (Value.tuple (List.toArray []))))))] [] (AV.arr (32 : Nat) (1 : Nat) (fun (i : Nat) => (AV.v (Value.int IntKind.u8 (((Sp.sumN (Sp.ofBytes (84 : Nat) (partsL (3 : Nat) (fun (i1 : Nat) => (nthD [(AV.dat (32 : Nat) false (1 : Nat) (fun (i2 : Nat) => (AV.v (Value.int IntKind.u8 (((List.getD (bytesL (32 : Nat) (rowL key)) ((0 : Nat) + i2) (0 : Nat)) : Nat) : Int))))), (AV.dat (4 : Nat) false (1 : Nat) (fun (i2 : Nat) => (nthD [(AV.v (Value.int IntKind.u8 (IntKind.wrap IntKind.u8 (bShr IntKind.i64 id (24 : Int))))), (AV.v (Value.int IntKind.u8 (IntKind.wrap IntKind.u8 (bShr IntKind.i64 id (16 : Int))))), (AV.v (Value.int IntKind.u8 (IntKind.wrap IntKind.u8 (bShr IntKind.i64 id (8 : Int))))), (AV.v (Value.int IntKind.u8 (IntKind.wrap IntKind.u8 id)))] ((0 : Nat) + i2) (AV.v (Value.tuple (List.toArray [])))))), (AV.dat (List.length b) ex (1 : Nat) (rowL b))] ((0 : Nat) + i1) (AV.v (Value.tuple (List.toArray []))))))) i) : Nat) : Int))))) [] ∧
 ((∀ (i : Nat), ((i < (32 : Nat)) → True)) ∧
 ((((32 : Nat) = (32 : Nat)) ∧ (((1 : Nat) = (1 : Nat)) ∧ (∀ (i : Nat), ((i < (32 : Nat)) → ((true = true) ∧ (Bool.true = true)))))) ∧
 (Φ Ex.ret (St.mk [((0 : Nat), (AV.arr (32 : Nat) (1 : Nat) (rowL key))), ((1 : Nat), (AV.v (Value.int IntKind.i64 id))), ((2 : Nat), (AV.dat (List.length b) ex (1 : Nat) (rowL b))), ((3 : Nat), (AV.ptr (3 : Nat) [])), ((6 : Nat), (AV.ptr (6 : Nat) []))] [((3 : Nat), (Blk.c (AV.arr (32 : Nat) (1 : Nat) (rowL key)))), ((6 : Nat), (Blk.c (AV.arr (32 : Nat) (1 : Nat) (fun (i : Nat) => (AV.v (Value.int IntKind.u8 (((Sp.sumN (Sp.ofBytes (84 : Nat) (partsL (3 : Nat) (fun (i1 : Nat) => (nthD [(AV.dat (32 : Nat) false (1 : Nat) (fun (i2 : Nat) => (AV.v (Value.int IntKind.u8 (((List.getD (bytesL (32 : Nat) (rowL key)) ((0 : Nat) + i2) (0 : Nat)) : Nat) : Int))))), (AV.dat (4 : Nat) false (1 : Nat) (fun (i2 : Nat) => (nthD [(AV.v (Value.int IntKind.u8 (IntKind.wrap IntKind.u8 (bShr IntKind.i64 id (24 : Int))))), (AV.v (Value.int IntKind.u8 (IntKind.wrap IntKind.u8 (bShr IntKind.i64 id (16 : Int))))), (AV.v (Value.int IntKind.u8 (IntKind.wrap IntKind.u8 (bShr IntKind.i64 id (8 : Int))))), (AV.v (Value.int IntKind.u8 (IntKind.wrap IntKind.u8 id)))] ((0 : Nat) + i2) (AV.v (Value.tuple (List.toArray [])))))), (AV.dat (List.length b) ex (1 : Nat) (rowL b))] ((0 : Nat) + i1) (AV.v (Value.tuple (List.toArray []))))))) i) : Nat) : Int))))))), ((10 : Nat), (Blk.c (AV.st [(AV.sl (1010 : Nat) [] (0 : Nat) (32 : Nat) (32 : Nat) false (1 : Nat)), (AV.sl (2010 : Nat) [] (0 : Nat) (4 : Nat) (4 : Nat) false (1 : Nat)), (AV.dat (List.length b) ex (1 : Nat) (rowL b))]))), ((1010 : Nat), (Blk.c (AV.arr (32 : Nat) (1 : Nat) (rowL (bytesL (32 : Nat) (rowL key)))))), ((2010 : Nat), (Blk.c (AV.st [(AV.v (Value.int IntKind.u8 (IntKind.wrap IntKind.u8 (bShr IntKind.i64 id (24 : Int))))), (AV.v (Value.int IntKind.u8 (IntKind.wrap IntKind.u8 (bShr IntKind.i64 id (16 : Int))))), (AV.v (Value.int IntKind.u8 (IntKind.wrap IntKind.u8 (bShr IntKind.i64 id (8 : Int))))), (AV.v (Value.int IntKind.u8 (IntKind.wrap IntKind.u8 id)))])))] [(2010 : Nat), (1010 : Nat), (10 : Nat), (6 : Nat), (3 : Nat)])))))) := by kernel_rfl
theorem right_A (key : List Nat) (id : Int) (ex : Bool) (b : List Nat) (K : Nat) (Φ : Ex → St → Prop) :
  (Holds C P 35 [] K Φ (vc C w_right b_right [] (start [kyA key, .i id, dB ex b] []) lf)) =
  ((I64 ((((List.length b) : Nat) : Int) - (32 : Int))) ∧
 (((decide (((((List.length b) : Nat) : Int) - (32 : Int)) < (0 : Int))) = true → 
 (Φ Ex.ret (St.mk [((0 : Nat), (AV.arr (32 : Nat) (1 : Nat) (rowL key))), ((1 : Nat), (AV.v (Value.int IntKind.i64 id))), ((2 : Nat), (AV.dat (List.length b) ex (1 : Nat) (rowL b))), ((3 : Nat), (AV.ptr (3 : Nat) [])), ((6 : Nat), (AV.v (Value.bool false))), ((7 : Nat), (AV.v (Value.int IntKind.i64 ((((List.length b) : Nat) : Int) - (32 : Int))))), ((14 : Nat), (AV.v (Value.bool true)))] [((3 : Nat), (Blk.c (AV.arr (32 : Nat) (1 : Nat) (rowL key))))] [(3 : Nat)]))) ∧
 ((decide (((((List.length b) : Nat) : Int) - (32 : Int)) < (0 : Int))) = false → 
 ((((0 : Int) ≤ (0 : Int)) ∧ (((0 : Int) ≤ ((((List.length b) : Nat) : Int) - (32 : Int))) ∧ (((((List.length b) : Nat) : Int) - (32 : Int)) ≤ (((List.length b) : Nat) : Int)))) ∧
  (Fun W.C W.P (15 : Nat) [(AV.arr (32 : Nat) (1 : Nat) (rowL key)), (AV.v (Value.int IntKind.i64 id)), (AV.dat (Int.toNat ((((List.length b) : Nat) : Int) - (32 : Int))) Bool.false (1 : Nat) (fun (i : Nat) => (AV.v (Value.int IntKind.u8 (((List.getD b ((0 : Nat) + i) (0 : Nat)) : Nat) : Int)))))] [] (AV.arr (32 : Nat) (1 : Nat) (fun (i : Nat) => (AV.v (Value.int IntKind.u8 (((Sp.sumN (W.tagB (bytesL (32 : Nat) (rowL key)) id (datL (AV.dat (Int.toNat ((((List.length b) : Nat) : Int) - (32 : Int))) Bool.false (1 : Nat) (fun (i1 : Nat) => (AV.v (Value.int IntKind.u8 (((List.getD b ((0 : Nat) + i1) (0 : Nat)) : Nat) : Int))))))) i) : Nat) : Int))))) [] ∧
  ((∀ (i : Nat), ((i < (32 : Nat)) → True)) ∧
  ((((32 : Nat) = (32 : Nat)) ∧ (((1 : Nat) = (1 : Nat)) ∧ (∀ (i : Nat), ((i < (32 : Nat)) → ((true = true) ∧ (Bool.true = true)))))) ∧
  (LoopOK W.C W.P (35 : Nat) [] K (bodyAt b_right [1, 1, 1, 1, 0, 1, 0]) (St.mk [((0 : Nat), (AV.arr (32 : Nat) (1 : Nat) (rowL key))), ((1 : Nat), (AV.v (Value.int IntKind.i64 id))), ((2 : Nat), (AV.dat (List.length b) ex (1 : Nat) (rowL b))), ((3 : Nat), (AV.ptr (3 : Nat) [])), ((6 : Nat), (AV.v (Value.bool false))), ((7 : Nat), (AV.v (Value.int IntKind.i64 ((((List.length b) : Nat) : Int) - (32 : Int))))), ((8 : Nat), (AV.ptr (8 : Nat) [])), ((9 : Nat), (AV.v (Value.int IntKind.i64 (0 : Int)))), ((14 : Nat), (AV.v (Value.bool false)))] [((3 : Nat), (Blk.c (AV.arr (32 : Nat) (1 : Nat) (rowL key)))), ((8 : Nat), (Blk.c (AV.arr (32 : Nat) (1 : Nat) (fun (i : Nat) => (AV.v (Value.int IntKind.u8 (((Sp.sumN (W.tagB (bytesL (32 : Nat) (rowL key)) id (datL (AV.dat (Int.toNat ((((List.length b) : Nat) : Int) - (32 : Int))) Bool.false (1 : Nat) (fun (i1 : Nat) => (AV.v (Value.int IntKind.u8 (((List.getD b ((0 : Nat) + i1) (0 : Nat)) : Nat) : Int))))))) i) : Nat) : Int)))))))] [(8 : Nat), (3 : Nat)]) (fun (e : Ex) (S' : St) => Holds W.C W.P (35 : Nat) [] K Φ (after W.C w_right b_right [1, 1, 1, 1, 0, 1, 0] [] lf e S')))))))))) := by kernel_rfl
noncomputable abbrev bd_right_0 : Code := bodyAt (b_right) [1, 1, 1, 1, 0, 1, 0]
theorem ok_right_0 : codeOK bd_right_0 = true := by kernel_rfl
noncomputable abbrev rest_right_0 (K : Nat) (Φ : Ex → St → Prop) : Ex → St → Prop := fun e S' => Holds C P 35 [] K Φ (after C w_right (b_right) [1, 1, 1, 1, 0, 1, 0] [] lf e S')
theorem right_L0 (key : List Nat) (id : Int) (ex : Bool) (b : List Nat) (i : Nat) (K : Nat) (Φ : Ex → St → Prop) :
  (Holds C P 35 [] K (RoundQ C 35 [] K (I_right key id ex b) (fun i => i ≤ 32 ∧ ∀ k, k < i → b.getD (b.length - 32 + k) 0 = sumN (tagB key id (cutL b)) k) (fun i => 32 - i) ((fun i => 32 - i) (i)) (rest_right_0 K Φ)) (vc C w_right bd_right_0 [] ((I_right key id ex b) (i)) lf)) =
  (((decide (((i : Nat) : Int) < (32 : Int))) = true → 
 ((I64 (((((List.length b) : Nat) : Int) - (32 : Int)) + ((i : Nat) : Int))) ∧
  ((((0 : Int) ≤ (((((List.length b) : Nat) : Int) - (32 : Int)) + ((i : Nat) : Int))) ∧ ((((((List.length b) : Nat) : Int) - (32 : Int)) + ((i : Nat) : Int)) < (((List.length b) : Nat) : Int))) ∧
  ((((0 : Int) ≤ ((i : Nat) : Int)) ∧ (((i : Nat) : Int) < (32 : Int))) ∧
  ((((((List.getD b (Int.toNat (((((List.length b) : Nat) : Int) - (32 : Int)) + ((i : Nat) : Int))) (0 : Nat)) : Nat) : Int) != (((Sp.sumN (W.tagB key id (W.cutL b)) i) : Nat) : Int)) = true → 
  (Φ Ex.ret (St.mk [((2 : Nat), (AV.dat (List.length b) ex (1 : Nat) (rowL b))), ((6 : Nat), (AV.v (Value.bool false))), ((7 : Nat), (AV.v (Value.int IntKind.i64 ((((List.length b) : Nat) : Int) - (32 : Int))))), ((8 : Nat), (AV.ptr (8 : Nat) [])), ((9 : Nat), (AV.v (Value.int IntKind.i64 ((i : Nat) : Int)))), ((22 : Nat), (AV.v (Value.bool true))), ((34 : Nat), (AV.v (Value.bool true)))] [((8 : Nat), (Blk.c (AV.arr (32 : Nat) (1 : Nat) (fun (i1 : Nat) => (AV.v (Value.int IntKind.u8 (((Sp.sumN (W.tagB key id (W.cutL b)) i1) : Nat) : Int)))))))] [(8 : Nat)]))) ∧
  (((((List.getD b (Int.toNat (((((List.length b) : Nat) : Int) - (32 : Int)) + ((i : Nat) : Int))) (0 : Nat)) : Nat) : Int) != (((Sp.sumN (W.tagB key id (W.cutL b)) i) : Nat) : Int)) = false → 
  ((I64 (((i + 1) : Nat) : Int)) ∧
   ((RoundQ C 35 [] K (I_right key id ex b) (fun i => i ≤ 32 ∧ ∀ k, k < i → b.getD (b.length - 32 + k) 0 = sumN (tagB key id (cutL b)) k) (fun i => 32 - i) ((fun i => 32 - i) (i)) (rest_right_0 K Φ)) Ex.normal (St.mk [((2 : Nat), (AV.dat (List.length b) ex (1 : Nat) (rowL b))), ((7 : Nat), (AV.v (Value.int IntKind.i64 ((((List.length b) : Nat) : Int) - (32 : Int))))), ((8 : Nat), (AV.ptr (8 : Nat) [])), ((9 : Nat), (AV.v (Value.int IntKind.i64 (((i + 1) : Nat) : Int)))), ((22 : Nat), (AV.v (Value.bool true))), ((34 : Nat), (AV.v (Value.bool false)))] [((8 : Nat), (Blk.c (AV.arr (32 : Nat) (1 : Nat) (fun (i1 : Nat) => (AV.v (Value.int IntKind.u8 (((Sp.sumN (W.tagB key id (W.cutL b)) i1) : Nat) : Int)))))))] [(8 : Nat)]))))))))) ∧
 ((decide (((i : Nat) : Int) < (32 : Int))) = false → 
 (Φ Ex.ret (St.mk [((2 : Nat), (AV.dat (List.length b) ex (1 : Nat) (rowL b))), ((6 : Nat), (AV.v (Value.bool true))), ((7 : Nat), (AV.v (Value.int IntKind.i64 ((((List.length b) : Nat) : Int) - (32 : Int))))), ((8 : Nat), (AV.ptr (8 : Nat) [])), ((9 : Nat), (AV.v (Value.int IntKind.i64 ((i : Nat) : Int)))), ((22 : Nat), (AV.v (Value.bool false)))] [((8 : Nat), (Blk.c (AV.arr (32 : Nat) (1 : Nat) (fun (i1 : Nat) => (AV.v (Value.int IntKind.u8 (((Sp.sumN (W.tagB key id (W.cutL b)) i1) : Nat) : Int)))))))] [(8 : Nat)])))) := by kernel_rfl
theorem rseal_A (key : List Nat) (id : Int) (ex : Bool) (b : List Nat) (K : Nat) (Φ : Ex → St → Prop) :
  (Holds C P 29 [] K Φ (vc C w_rseal b_rseal [] (start [kyA key, .i id, dB ex b] []) lf)) =
  (Fun W.C W.P (35 : Nat) [(AV.arr (32 : Nat) (1 : Nat) (rowL key)), (AV.v (Value.int IntKind.i64 id)), (AV.dat (List.length b) ex (1 : Nat) (rowL b))] [] (AV.sl (0 : Nat) [] (0 : Nat) (List.length (W.mixL (bytesL (32 : Nat) (rowL key)) id (datL (AV.dat (List.length b) ex (1 : Nat) (rowL b))))) (List.length (W.mixL (bytesL (32 : Nat) (rowL key)) id (datL (AV.dat (List.length b) ex (1 : Nat) (rowL b))))) false (1 : Nat)) [((0 : Nat), (Blk.c (AV.arr (List.length (W.mixL (bytesL (32 : Nat) (rowL key)) id (datL (AV.dat (List.length b) ex (1 : Nat) (rowL b))))) (1 : Nat) (rowL (W.mixL (bytesL (32 : Nat) (rowL key)) id (datL (AV.dat (List.length b) ex (1 : Nat) (rowL b))))))))] ∧
 (Fun W.C W.P (15 : Nat) [(AV.arr (32 : Nat) (1 : Nat) (rowL key)), (AV.v (Value.int IntKind.i64 id)), (AV.dat (List.length (W.mixL (bytesL (32 : Nat) (rowL key)) id (datL (AV.dat (List.length b) ex (1 : Nat) (rowL b))))) false (1 : Nat) (fun (i : Nat) => (AV.v (Value.int IntKind.u8 (((List.getD (W.mixL (bytesL (32 : Nat) (rowL key)) id (datL (AV.dat (List.length b) ex (1 : Nat) (rowL b)))) ((0 : Nat) + i) (0 : Nat)) : Nat) : Int)))))] [] (AV.arr (32 : Nat) (1 : Nat) (fun (i : Nat) => (AV.v (Value.int IntKind.u8 (((Sp.sumN (W.tagB (bytesL (32 : Nat) (rowL key)) id (datL (AV.dat (List.length (W.mixL (bytesL (32 : Nat) (rowL key)) id (datL (AV.dat (List.length b) ex (1 : Nat) (rowL b))))) false (1 : Nat) (fun (i1 : Nat) => (AV.v (Value.int IntKind.u8 (((List.getD (W.mixL (bytesL (32 : Nat) (rowL key)) id (datL (AV.dat (List.length b) ex (1 : Nat) (rowL b)))) ((0 : Nat) + i1) (0 : Nat)) : Nat) : Int))))))) i) : Nat) : Int))))) [] ∧
 ((∀ (i : Nat), ((i < (32 : Nat)) → True)) ∧
 ((((32 : Nat) = (32 : Nat)) ∧ (((1 : Nat) = (1 : Nat)) ∧ (∀ (i : Nat), ((i < (32 : Nat)) → ((true = true) ∧ (Bool.true = true)))))) ∧
 (LoopOK W.C W.P (29 : Nat) [] K (bodyAt b_rseal [1, 1, 1, 0, 1, 0]) (St.mk [((0 : Nat), (AV.arr (32 : Nat) (1 : Nat) (rowL key))), ((1 : Nat), (AV.v (Value.int IntKind.i64 id))), ((2 : Nat), (AV.dat (List.length b) ex (1 : Nat) (rowL b))), ((3 : Nat), (AV.ptr (3 : Nat) [])), ((6 : Nat), (AV.dat (0 : Nat) true (0 : Nat) (fun (x : Nat) => (AV.v (Value.tuple (List.toArray [])))))), ((7 : Nat), (AV.sl (13 : Nat) [] (0 : Nat) (List.length (W.mixL (bytesL (32 : Nat) (rowL key)) id (datL (AV.dat (List.length b) ex (1 : Nat) (rowL b))))) (List.length (W.mixL (bytesL (32 : Nat) (rowL key)) id (datL (AV.dat (List.length b) ex (1 : Nat) (rowL b))))) false (1 : Nat))), ((8 : Nat), (AV.ptr (8 : Nat) [])), ((9 : Nat), (AV.v (Value.int IntKind.i64 (0 : Int))))] [((3 : Nat), (Blk.c (AV.arr (32 : Nat) (1 : Nat) (rowL key)))), ((8 : Nat), (Blk.c (AV.arr (32 : Nat) (1 : Nat) (fun (i : Nat) => (AV.v (Value.int IntKind.u8 (((Sp.sumN (W.tagB (bytesL (32 : Nat) (rowL key)) id (datL (AV.dat (List.length (W.mixL (bytesL (32 : Nat) (rowL key)) id (datL (AV.dat (List.length b) ex (1 : Nat) (rowL b))))) false (1 : Nat) (fun (i1 : Nat) => (AV.v (Value.int IntKind.u8 (((List.getD (W.mixL (bytesL (32 : Nat) (rowL key)) id (datL (AV.dat (List.length b) ex (1 : Nat) (rowL b)))) ((0 : Nat) + i1) (0 : Nat)) : Nat) : Int))))))) i) : Nat) : Int))))))), ((13 : Nat), (Blk.c (AV.arr (List.length (W.mixL (bytesL (32 : Nat) (rowL key)) id (datL (AV.dat (List.length b) ex (1 : Nat) (rowL b))))) (1 : Nat) (rowL (W.mixL (bytesL (32 : Nat) (rowL key)) id (datL (AV.dat (List.length b) ex (1 : Nat) (rowL b))))))))] [(8 : Nat), (13 : Nat), (3 : Nat)]) (fun (e : Ex) (S' : St) => Holds W.C W.P (29 : Nat) [] K Φ (after W.C w_rseal b_rseal [1, 1, 1, 0, 1, 0] [] lf e S'))))))) := by kernel_rfl
noncomputable abbrev bd_rseal_0 : Code := bodyAt (b_rseal) [1, 1, 1, 0, 1, 0]
theorem ok_rseal_0 : codeOK bd_rseal_0 = true := by kernel_rfl
noncomputable abbrev rest_rseal_0 (K : Nat) (Φ : Ex → St → Prop) : Ex → St → Prop := fun e S' => Holds C P 29 [] K Φ (after C w_rseal (b_rseal) [1, 1, 1, 0, 1, 0] [] lf e S')
theorem rseal_L0 (key : List Nat) (id : Int) (b : List Nat) (i : Nat) (K : Nat) (Φ : Ex → St → Prop) :
  (Holds C P 29 [] K (RoundQ C 29 [] K (I_rseal key id b) (fun i => i ≤ 32) (fun i => 32 - i) ((fun i => 32 - i) (i)) (rest_rseal_0 K Φ)) (vc C w_rseal bd_rseal_0 [] ((I_rseal key id b) (i)) lf)) =
  (((decide (((i : Nat) : Int) < (32 : Int))) = true → 
 ((((0 : Int) ≤ ((i : Nat) : Int)) ∧ (((i : Nat) : Int) < (32 : Int))) ∧
  ((((((List.length b) + i) + (1 : Nat)) * (1 : Nat)) ≤ (140737488355328 : Nat)) ∧
  ((I64 (((i + 1) : Nat) : Int)) ∧
  ((RoundQ C 29 [] K (I_rseal key id b) (fun i => i ≤ 32) (fun i => 32 - i) ((fun i => 32 - i) (i)) (rest_rseal_0 K Φ)) Ex.normal (St.mk [((7 : Nat), (AV.sl (27 : Nat) [] (0 : Nat) (((List.length b) + i) + (1 : Nat)) (((List.length b) + i) + (1 : Nat)) false (1 : Nat))), ((8 : Nat), (AV.ptr (8 : Nat) [])), ((9 : Nat), (AV.v (Value.int IntKind.i64 (((i + 1) : Nat) : Int)))), ((19 : Nat), (AV.v (Value.bool true)))] [((8 : Nat), (Blk.c (AV.arr (32 : Nat) (1 : Nat) (fun (i1 : Nat) => (AV.v (Value.int IntKind.u8 (((Sp.sumN (W.tagB key id (W.mixL key id b)) i1) : Nat) : Int))))))), ((26 : Nat), (Blk.c (AV.st [(AV.v (Value.int IntKind.u8 (((Sp.sumN (W.tagB key id (W.mixL key id b)) i) : Nat) : Int)))]))), ((27 : Nat), (Blk.c (AV.arr (((List.length b) + i) + (1 : Nat)) (1 : Nat) (cat ((List.length b) + i) (fun (i1 : Nat) => (AV.v (Value.int IntKind.u8 (((List.getD (W.sealL key id b) ((0 : Nat) + i1) (0 : Nat)) : Nat) : Int)))) (fun (i1 : Nat) => (nthD [(AV.v (Value.int IntKind.u8 (((Sp.sumN (W.tagB key id (W.mixL key id b)) i) : Nat) : Int)))] ((0 : Nat) + i1) (AV.v (Value.tuple (List.toArray [])))))))))] [(27 : Nat), (26 : Nat), (7 : Nat), (8 : Nat)])))))) ∧
 ((decide (((i : Nat) : Int) < (32 : Int))) = false → 
 (Φ Ex.ret (St.mk [((6 : Nat), (AV.sl (7 : Nat) [] (0 : Nat) ((List.length b) + i) ((List.length b) + i) false (1 : Nat))), ((7 : Nat), (AV.sl (7 : Nat) [] (0 : Nat) ((List.length b) + i) ((List.length b) + i) false (1 : Nat))), ((8 : Nat), (AV.ptr (8 : Nat) [])), ((9 : Nat), (AV.v (Value.int IntKind.i64 ((i : Nat) : Int)))), ((19 : Nat), (AV.v (Value.bool false)))] [((7 : Nat), (Blk.c (AV.arr ((List.length b) + i) (1 : Nat) (rowL (W.sealL key id b))))), ((8 : Nat), (Blk.c (AV.arr (32 : Nat) (1 : Nat) (fun (i1 : Nat) => (AV.v (Value.int IntKind.u8 (((Sp.sumN (W.tagB key id (W.mixL key id b)) i1) : Nat) : Int)))))))] [(7 : Nat), (8 : Nat)])))) := by kernel_rfl
theorem rsize_A (ex : Bool) (b : List Nat) (K : Nat) (Φ : Ex → St → Prop) :
  (Holds C P 7 [] K Φ (vc C w_rsize b_rsize [] (start [dB ex b] []) lf)) =
  ((I64 ((((List.length b) : Nat) : Int) - (32 : Int))) ∧
 (Φ Ex.ret (St.mk [((0 : Nat), (AV.dat (List.length b) ex (1 : Nat) (rowL b))), ((2 : Nat), (AV.v (Value.int IntKind.i64 (Max.max (0 : Int) ((((List.length b) : Nat) : Int) - (32 : Int))))))] [] []))) := by kernel_rfl
theorem openin_A (key : List Nat) (id : Int) (ex : Bool) (b : List Nat) (K : Nat) (Φ : Ex → St → Prop) :
  (Holds C P 22 [] K Φ (vc C w_openin b_openin [] (start [kyA key, .i id, dB ex b] []) lf)) =
  (Fun W.C W.P (16 : Nat) [(AV.arr (32 : Nat) (1 : Nat) (rowL key)), (AV.v (Value.int IntKind.i64 id)), (AV.dat (List.length b) ex (1 : Nat) (rowL b))] [] (AV.sb (W.rightB (bytesL (32 : Nat) (rowL key)) id (datL (AV.dat (List.length b) ex (1 : Nat) (rowL b))))) [] ∧
 (True ∧
 (((!(W.rightB (bytesL (32 : Nat) (rowL key)) id (datL (AV.dat (List.length b) ex (1 : Nat) (rowL b))))) = true → 
 ((((true = true) ∧ (true = true)) ∧ (((true = true) ∧ (true = true)) ∧ True)) ∧
  (Φ Ex.ret (St.mk [((0 : Nat), (AV.arr (32 : Nat) (1 : Nat) (rowL key))), ((1 : Nat), (AV.v (Value.int IntKind.i64 id))), ((2 : Nat), (AV.dat (List.length b) ex (1 : Nat) (rowL b))), ((3 : Nat), (AV.ptr (3 : Nat) [])), ((6 : Nat), (AV.ptr (6 : Nat) [])), ((11 : Nat), (AV.v (Value.bool true)))] [((3 : Nat), (Blk.c (AV.arr (32 : Nat) (1 : Nat) (rowL key)))), ((6 : Nat), (Blk.c (AV.st [(AV.dat (0 : Nat) true (0 : Nat) (fun (x : Nat) => (AV.v (Value.tuple (List.toArray []))))), (AV.v (Value.int IntKind.i64 (50 : Int)))])))] [(6 : Nat), (3 : Nat)])))) ∧
 ((!(W.rightB (bytesL (32 : Nat) (rowL key)) id (datL (AV.dat (List.length b) ex (1 : Nat) (rowL b))))) = false → 
 ((I64 ((((List.length b) : Nat) : Int) - (32 : Int))) ∧
  ((((0 : Int) ≤ (0 : Int)) ∧ (((0 : Int) ≤ ((((List.length b) : Nat) : Int) - (32 : Int))) ∧ (((((List.length b) : Nat) : Int) - (32 : Int)) ≤ (((List.length b) : Nat) : Int)))) ∧
  (Fun W.C W.P (35 : Nat) [(AV.arr (32 : Nat) (1 : Nat) (rowL key)), (AV.v (Value.int IntKind.i64 id)), (AV.dat (Int.toNat ((((List.length b) : Nat) : Int) - (32 : Int))) Bool.false (1 : Nat) (fun (i : Nat) => (AV.v (Value.int IntKind.u8 (((List.getD b ((0 : Nat) + i) (0 : Nat)) : Nat) : Int)))))] [] (AV.sl (0 : Nat) [] (0 : Nat) (List.length (W.mixL (bytesL (32 : Nat) (rowL key)) id (datL (AV.dat (Int.toNat ((((List.length b) : Nat) : Int) - (32 : Int))) Bool.false (1 : Nat) (fun (i : Nat) => (AV.v (Value.int IntKind.u8 (((List.getD b ((0 : Nat) + i) (0 : Nat)) : Nat) : Int)))))))) (List.length (W.mixL (bytesL (32 : Nat) (rowL key)) id (datL (AV.dat (Int.toNat ((((List.length b) : Nat) : Int) - (32 : Int))) Bool.false (1 : Nat) (fun (i : Nat) => (AV.v (Value.int IntKind.u8 (((List.getD b ((0 : Nat) + i) (0 : Nat)) : Nat) : Int)))))))) false (1 : Nat)) [((0 : Nat), (Blk.c (AV.arr (List.length (W.mixL (bytesL (32 : Nat) (rowL key)) id (datL (AV.dat (Int.toNat ((((List.length b) : Nat) : Int) - (32 : Int))) Bool.false (1 : Nat) (fun (i : Nat) => (AV.v (Value.int IntKind.u8 (((List.getD b ((0 : Nat) + i) (0 : Nat)) : Nat) : Int)))))))) (1 : Nat) (rowL (W.mixL (bytesL (32 : Nat) (rowL key)) id (datL (AV.dat (Int.toNat ((((List.length b) : Nat) : Int) - (32 : Int))) Bool.false (1 : Nat) (fun (i : Nat) => (AV.v (Value.int IntKind.u8 (((List.getD b ((0 : Nat) + i) (0 : Nat)) : Nat) : Int)))))))))))] ∧
  ((((true = true) ∧ (Bool.true = true)) ∧ (((true = true) ∧ (true = true)) ∧ True)) ∧
  (Φ Ex.ret (St.mk [((0 : Nat), (AV.arr (32 : Nat) (1 : Nat) (rowL key))), ((1 : Nat), (AV.v (Value.int IntKind.i64 id))), ((2 : Nat), (AV.dat (List.length b) ex (1 : Nat) (rowL b))), ((3 : Nat), (AV.ptr (3 : Nat) [])), ((6 : Nat), (AV.ptr (6 : Nat) [])), ((11 : Nat), (AV.v (Value.bool false)))] [((3 : Nat), (Blk.c (AV.arr (32 : Nat) (1 : Nat) (rowL key)))), ((6 : Nat), (Blk.c (AV.st [(AV.sl (20 : Nat) [] (0 : Nat) (List.length (W.mixL (bytesL (32 : Nat) (rowL key)) id (datL (AV.dat (Int.toNat ((((List.length b) : Nat) : Int) - (32 : Int))) Bool.false (1 : Nat) (fun (i : Nat) => (AV.v (Value.int IntKind.u8 (((List.getD b ((0 : Nat) + i) (0 : Nat)) : Nat) : Int)))))))) (List.length (W.mixL (bytesL (32 : Nat) (rowL key)) id (datL (AV.dat (Int.toNat ((((List.length b) : Nat) : Int) - (32 : Int))) Bool.false (1 : Nat) (fun (i : Nat) => (AV.v (Value.int IntKind.u8 (((List.getD b ((0 : Nat) + i) (0 : Nat)) : Nat) : Int)))))))) false (1 : Nat)), (AV.v (Value.int IntKind.i64 (0 : Int)))]))), ((20 : Nat), (Blk.c (AV.arr (List.length (W.mixL (bytesL (32 : Nat) (rowL key)) id (datL (AV.dat (Int.toNat ((((List.length b) : Nat) : Int) - (32 : Int))) Bool.false (1 : Nat) (fun (i : Nat) => (AV.v (Value.int IntKind.u8 (((List.getD b ((0 : Nat) + i) (0 : Nat)) : Nat) : Int)))))))) (1 : Nat) (rowL (W.mixL (bytesL (32 : Nat) (rowL key)) id (datL (AV.dat (Int.toNat ((((List.length b) : Nat) : Int) - (32 : Int))) Bool.false (1 : Nat) (fun (i : Nat) => (AV.v (Value.int IntKind.u8 (((List.getD b ((0 : Nat) + i) (0 : Nat)) : Nat) : Int)))))))))))] [(20 : Nat), (6 : Nat), (3 : Nat)])))))))))) := by kernel_rfl
theorem rekeyin_A (old key : List Nat) (id : Int) (ex : Bool) (b : List Nat) (K : Nat) (Φ : Ex → St → Prop) :
  (Holds C P 24 [] K Φ (vc C w_rekeyin b_rekeyin [] (start [kyA old, kyA key, .i id, dB ex b] []) lf)) =
  (Fun W.C W.P (22 : Nat) [(AV.arr (32 : Nat) (1 : Nat) (rowL old)), (AV.v (Value.int IntKind.i64 id)), (AV.dat (List.length b) ex (1 : Nat) (rowL b))] [] (AV.st [(AV.sl (0 : Nat) [] (0 : Nat) (List.length (W.openL (bytesL (32 : Nat) (rowL old)) id (datL (AV.dat (List.length b) ex (1 : Nat) (rowL b))))) (List.length (W.openL (bytesL (32 : Nat) (rowL old)) id (datL (AV.dat (List.length b) ex (1 : Nat) (rowL b))))) false (1 : Nat)), (AV.v (Value.int IntKind.i64 (W.openE (bytesL (32 : Nat) (rowL old)) id (datL (AV.dat (List.length b) ex (1 : Nat) (rowL b))))))]) [((0 : Nat), (Blk.c (AV.arr (List.length (W.openL (bytesL (32 : Nat) (rowL old)) id (datL (AV.dat (List.length b) ex (1 : Nat) (rowL b))))) (1 : Nat) (rowL (W.openL (bytesL (32 : Nat) (rowL old)) id (datL (AV.dat (List.length b) ex (1 : Nat) (rowL b))))))))] ∧
 ((((true = true) ∧ (Bool.true = true)) ∧ (((true = true) ∧ (Bool.true = true)) ∧ True)) ∧
 ((((W.openE (bytesL (32 : Nat) (rowL old)) id (datL (AV.dat (List.length b) ex (1 : Nat) (rowL b)))) != (0 : Int)) = true → 
 ((((true = true) ∧ (Bool.true = true)) ∧ (((true = true) ∧ (Bool.true = true)) ∧ True)) ∧
  (Φ Ex.ret (St.mk [((0 : Nat), (AV.arr (32 : Nat) (1 : Nat) (rowL old))), ((1 : Nat), (AV.arr (32 : Nat) (1 : Nat) (rowL key))), ((2 : Nat), (AV.v (Value.int IntKind.i64 id))), ((3 : Nat), (AV.dat (List.length b) ex (1 : Nat) (rowL b))), ((4 : Nat), (AV.ptr (4 : Nat) [])), ((5 : Nat), (AV.ptr (5 : Nat) [])), ((8 : Nat), (AV.ptr (8 : Nat) [])), ((9 : Nat), (AV.ptr (9 : Nat) [])), ((16 : Nat), (AV.v (Value.bool true)))] [((4 : Nat), (Blk.c (AV.arr (32 : Nat) (1 : Nat) (rowL old)))), ((5 : Nat), (Blk.c (AV.arr (32 : Nat) (1 : Nat) (rowL key)))), ((8 : Nat), (Blk.c (AV.st [(AV.sl (13 : Nat) [] (0 : Nat) (List.length (W.openL (bytesL (32 : Nat) (rowL old)) id (datL (AV.dat (List.length b) ex (1 : Nat) (rowL b))))) (List.length (W.openL (bytesL (32 : Nat) (rowL old)) id (datL (AV.dat (List.length b) ex (1 : Nat) (rowL b))))) false (1 : Nat)), (AV.v (Value.int IntKind.i64 (W.openE (bytesL (32 : Nat) (rowL old)) id (datL (AV.dat (List.length b) ex (1 : Nat) (rowL b))))))]))), ((9 : Nat), (Blk.c (AV.st [(AV.sl (13 : Nat) [] (0 : Nat) (List.length (W.openL (bytesL (32 : Nat) (rowL old)) id (datL (AV.dat (List.length b) ex (1 : Nat) (rowL b))))) (List.length (W.openL (bytesL (32 : Nat) (rowL old)) id (datL (AV.dat (List.length b) ex (1 : Nat) (rowL b))))) false (1 : Nat)), (AV.v (Value.int IntKind.i64 (W.openE (bytesL (32 : Nat) (rowL old)) id (datL (AV.dat (List.length b) ex (1 : Nat) (rowL b))))))]))), ((13 : Nat), (Blk.c (AV.arr (List.length (W.openL (bytesL (32 : Nat) (rowL old)) id (datL (AV.dat (List.length b) ex (1 : Nat) (rowL b))))) (1 : Nat) (rowL (W.openL (bytesL (32 : Nat) (rowL old)) id (datL (AV.dat (List.length b) ex (1 : Nat) (rowL b))))))))] [(9 : Nat), (13 : Nat), (8 : Nat), (5 : Nat), (4 : Nat)])))) ∧
 (((W.openE (bytesL (32 : Nat) (rowL old)) id (datL (AV.dat (List.length b) ex (1 : Nat) (rowL b)))) != (0 : Int)) = false → 
 (Fun W.C W.P (19 : Nat) [(AV.arr (32 : Nat) (1 : Nat) (rowL key)), (AV.v (Value.int IntKind.i64 id)), (AV.dat (List.length (W.openL (bytesL (32 : Nat) (rowL old)) id (datL (AV.dat (List.length b) ex (1 : Nat) (rowL b))))) false (1 : Nat) (fun (i : Nat) => (AV.v (Value.int IntKind.u8 (((List.getD (W.openL (bytesL (32 : Nat) (rowL old)) id (datL (AV.dat (List.length b) ex (1 : Nat) (rowL b)))) ((0 : Nat) + i) (0 : Nat)) : Nat) : Int)))))] [] (AV.sl (0 : Nat) [] (0 : Nat) (List.length (W.sealL (bytesL (32 : Nat) (rowL key)) id (datL (AV.dat (List.length (W.openL (bytesL (32 : Nat) (rowL old)) id (datL (AV.dat (List.length b) ex (1 : Nat) (rowL b))))) false (1 : Nat) (fun (i : Nat) => (AV.v (Value.int IntKind.u8 (((List.getD (W.openL (bytesL (32 : Nat) (rowL old)) id (datL (AV.dat (List.length b) ex (1 : Nat) (rowL b)))) ((0 : Nat) + i) (0 : Nat)) : Nat) : Int)))))))) (List.length (W.sealL (bytesL (32 : Nat) (rowL key)) id (datL (AV.dat (List.length (W.openL (bytesL (32 : Nat) (rowL old)) id (datL (AV.dat (List.length b) ex (1 : Nat) (rowL b))))) false (1 : Nat) (fun (i : Nat) => (AV.v (Value.int IntKind.u8 (((List.getD (W.openL (bytesL (32 : Nat) (rowL old)) id (datL (AV.dat (List.length b) ex (1 : Nat) (rowL b)))) ((0 : Nat) + i) (0 : Nat)) : Nat) : Int)))))))) false (1 : Nat)) [((0 : Nat), (Blk.c (AV.arr (List.length (W.sealL (bytesL (32 : Nat) (rowL key)) id (datL (AV.dat (List.length (W.openL (bytesL (32 : Nat) (rowL old)) id (datL (AV.dat (List.length b) ex (1 : Nat) (rowL b))))) false (1 : Nat) (fun (i : Nat) => (AV.v (Value.int IntKind.u8 (((List.getD (W.openL (bytesL (32 : Nat) (rowL old)) id (datL (AV.dat (List.length b) ex (1 : Nat) (rowL b)))) ((0 : Nat) + i) (0 : Nat)) : Nat) : Int)))))))) (1 : Nat) (rowL (W.sealL (bytesL (32 : Nat) (rowL key)) id (datL (AV.dat (List.length (W.openL (bytesL (32 : Nat) (rowL old)) id (datL (AV.dat (List.length b) ex (1 : Nat) (rowL b))))) false (1 : Nat) (fun (i : Nat) => (AV.v (Value.int IntKind.u8 (((List.getD (W.openL (bytesL (32 : Nat) (rowL old)) id (datL (AV.dat (List.length b) ex (1 : Nat) (rowL b)))) ((0 : Nat) + i) (0 : Nat)) : Nat) : Int)))))))))))] ∧
  ((((true = true) ∧ (Bool.true = true)) ∧ (((true = true) ∧ (true = true)) ∧ True)) ∧
  (Φ Ex.ret (St.mk [((0 : Nat), (AV.arr (32 : Nat) (1 : Nat) (rowL old))), ((1 : Nat), (AV.arr (32 : Nat) (1 : Nat) (rowL key))), ((2 : Nat), (AV.v (Value.int IntKind.i64 id))), ((3 : Nat), (AV.dat (List.length b) ex (1 : Nat) (rowL b))), ((4 : Nat), (AV.ptr (4 : Nat) [])), ((5 : Nat), (AV.ptr (5 : Nat) [])), ((8 : Nat), (AV.ptr (8 : Nat) [])), ((9 : Nat), (AV.ptr (9 : Nat) [])), ((16 : Nat), (AV.v (Value.bool false)))] [((4 : Nat), (Blk.c (AV.arr (32 : Nat) (1 : Nat) (rowL old)))), ((5 : Nat), (Blk.c (AV.arr (32 : Nat) (1 : Nat) (rowL key)))), ((8 : Nat), (Blk.c (AV.st [(AV.sl (22 : Nat) [] (0 : Nat) (List.length (W.sealL (bytesL (32 : Nat) (rowL key)) id (datL (AV.dat (List.length (W.openL (bytesL (32 : Nat) (rowL old)) id (datL (AV.dat (List.length b) ex (1 : Nat) (rowL b))))) false (1 : Nat) (fun (i : Nat) => (AV.v (Value.int IntKind.u8 (((List.getD (W.openL (bytesL (32 : Nat) (rowL old)) id (datL (AV.dat (List.length b) ex (1 : Nat) (rowL b)))) ((0 : Nat) + i) (0 : Nat)) : Nat) : Int)))))))) (List.length (W.sealL (bytesL (32 : Nat) (rowL key)) id (datL (AV.dat (List.length (W.openL (bytesL (32 : Nat) (rowL old)) id (datL (AV.dat (List.length b) ex (1 : Nat) (rowL b))))) false (1 : Nat) (fun (i : Nat) => (AV.v (Value.int IntKind.u8 (((List.getD (W.openL (bytesL (32 : Nat) (rowL old)) id (datL (AV.dat (List.length b) ex (1 : Nat) (rowL b)))) ((0 : Nat) + i) (0 : Nat)) : Nat) : Int)))))))) false (1 : Nat)), (AV.v (Value.int IntKind.i64 (0 : Int)))]))), ((9 : Nat), (Blk.c (AV.st [(AV.sl (13 : Nat) [] (0 : Nat) (List.length (W.openL (bytesL (32 : Nat) (rowL old)) id (datL (AV.dat (List.length b) ex (1 : Nat) (rowL b))))) (List.length (W.openL (bytesL (32 : Nat) (rowL old)) id (datL (AV.dat (List.length b) ex (1 : Nat) (rowL b))))) false (1 : Nat)), (AV.v (Value.int IntKind.i64 (W.openE (bytesL (32 : Nat) (rowL old)) id (datL (AV.dat (List.length b) ex (1 : Nat) (rowL b))))))]))), ((22 : Nat), (Blk.c (AV.arr (List.length (W.sealL (bytesL (32 : Nat) (rowL key)) id (datL (AV.dat (List.length (W.openL (bytesL (32 : Nat) (rowL old)) id (datL (AV.dat (List.length b) ex (1 : Nat) (rowL b))))) false (1 : Nat) (fun (i : Nat) => (AV.v (Value.int IntKind.u8 (((List.getD (W.openL (bytesL (32 : Nat) (rowL old)) id (datL (AV.dat (List.length b) ex (1 : Nat) (rowL b)))) ((0 : Nat) + i) (0 : Nat)) : Nat) : Int)))))))) (1 : Nat) (rowL (W.sealL (bytesL (32 : Nat) (rowL key)) id (datL (AV.dat (List.length (W.openL (bytesL (32 : Nat) (rowL old)) id (datL (AV.dat (List.length b) ex (1 : Nat) (rowL b))))) false (1 : Nat) (fun (i : Nat) => (AV.v (Value.int IntKind.u8 (((List.getD (W.openL (bytesL (32 : Nat) (rowL old)) id (datL (AV.dat (List.length b) ex (1 : Nat) (rowL b)))) ((0 : Nat) + i) (0 : Nat)) : Nat) : Int)))))))))))] [(22 : Nat), (9 : Nat), (13 : Nat), (8 : Nat), (5 : Nat), (4 : Nat)])))))))) := by kernel_rfl
theorem rkey_A (n : Nat) (K : Nat) (Φ : Ex → St → Prop) :
  (Holds C P 14 [] K Φ (vc C w_rkey b_rkey [] (start [u8 n] []) lf)) =
  ((((32 : Nat) = (32 : Nat)) ∧ (((1 : Nat) = (1 : Nat)) ∧ (∀ (i : Nat), ((i < (32 : Nat)) → ((true = true) ∧ (Bool.true = true)))))) ∧
 (LoopOK W.C W.P (14 : Nat) [] K (bodyAt b_rkey [1, 1, 0, 1, 0]) (St.mk [((0 : Nat), (AV.v (Value.int IntKind.u8 ((n : Nat) : Int)))), ((2 : Nat), (AV.ptr (2 : Nat) [])), ((3 : Nat), (AV.ptr (3 : Nat) [])), ((4 : Nat), (AV.v (Value.int IntKind.i64 (0 : Int))))] [((2 : Nat), (Blk.c (AV.arr (32 : Nat) (1 : Nat) (fun (x : Nat) => (AV.v (Value.int IntKind.u8 (0 : Int))))))), ((3 : Nat), (Blk.c (AV.arr (32 : Nat) (1 : Nat) (fun (x : Nat) => (AV.v (Value.int IntKind.u8 (0 : Int)))))))] [(3 : Nat), (2 : Nat)]) (fun (e : Ex) (S' : St) => Holds W.C W.P (14 : Nat) [] K Φ (after W.C w_rkey b_rkey [1, 1, 0, 1, 0] [] lf e S')))) := by kernel_rfl
noncomputable abbrev bd_rkey_0 : Code := bodyAt (b_rkey) [1, 1, 0, 1, 0]
theorem ok_rkey_0 : codeOK bd_rkey_0 = true := by kernel_rfl
noncomputable abbrev rest_rkey_0 (K : Nat) (Φ : Ex → St → Prop) : Ex → St → Prop := fun e S' => Holds C P 14 [] K Φ (after C w_rkey (b_rkey) [1, 1, 0, 1, 0] [] lf e S')
theorem rkey_L0 (n : Nat) (i : Nat) (K : Nat) (Φ : Ex → St → Prop) :
  (Holds C P 14 [] K (RoundQ C 14 [] K (I_rkey n) (fun i => i ≤ 32) (fun i => 32 - i) ((fun i => 32 - i) (i)) (rest_rkey_0 K Φ)) (vc C w_rkey bd_rkey_0 [] ((I_rkey n) (i)) lf)) =
  (((decide (((i : Nat) : Int) < (32 : Int))) = true → 
 ((((0 : Int) ≤ ((i : Nat) : Int)) ∧ (((i : Nat) : Int) < (32 : Int))) ∧
  ((I64 (((i + 1) : Nat) : Int)) ∧
  ((RoundQ C 14 [] K (I_rkey n) (fun i => i ≤ 32) (fun i => 32 - i) ((fun i => 32 - i) (i)) (rest_rkey_0 K Φ)) Ex.normal (St.mk [((0 : Nat), (AV.v (Value.int IntKind.u8 ((n : Nat) : Int)))), ((2 : Nat), (AV.ptr (2 : Nat) [])), ((3 : Nat), (AV.ptr (3 : Nat) [])), ((4 : Nat), (AV.v (Value.int IntKind.i64 (((i + 1) : Nat) : Int)))), ((7 : Nat), (AV.v (Value.bool true)))] [((2 : Nat), (Blk.c (AV.arr (32 : Nat) (1 : Nat) (fun (x : Nat) => (AV.v (Value.int IntKind.u8 (0 : Int))))))), ((3 : Nat), (Blk.c (AV.arr (32 : Nat) (1 : Nat) (fun (j : Nat) => (if (j = i) then (AV.v (Value.int IntKind.u8 ((n : Nat) : Int))) else (AV.v (Value.int IntKind.u8 (((if (j < i) then n else (0 : Nat)) : Nat) : Int))))))))] [(2 : Nat), (3 : Nat)]))))) ∧
 ((decide (((i : Nat) : Int) < (32 : Int))) = false → 
 ((((32 : Nat) = (32 : Nat)) ∧ (((1 : Nat) = (1 : Nat)) ∧ (∀ (i1 : Nat), ((i1 < (32 : Nat)) → ((true = true) ∧ (Bool.true = true)))))) ∧
  (Φ Ex.ret (St.mk [((0 : Nat), (AV.v (Value.int IntKind.u8 ((n : Nat) : Int)))), ((2 : Nat), (AV.ptr (2 : Nat) [])), ((3 : Nat), (AV.ptr (3 : Nat) [])), ((4 : Nat), (AV.v (Value.int IntKind.i64 ((i : Nat) : Int)))), ((7 : Nat), (AV.v (Value.bool false)))] [((2 : Nat), (Blk.c (AV.arr (32 : Nat) (1 : Nat) (fun (i1 : Nat) => (AV.v (Value.int IntKind.u8 (((if (i1 < i) then n else (0 : Nat)) : Nat) : Int))))))), ((3 : Nat), (Blk.c (AV.arr (32 : Nat) (1 : Nat) (fun (i1 : Nat) => (AV.v (Value.int IntKind.u8 (((if (i1 < i) then n else (0 : Nat)) : Nat) : Int)))))))] [(2 : Nat), (3 : Nat)]))))) := by kernel_rfl
theorem same_A (ex : Bool) (a : List Nat) (p : Int) (ex' : Bool) (b : List Nat) (q : Int) (K : Nat) (Φ : Ex → St → Prop) :
  (Holds C P 19 [] K Φ (vc C w_same b_same [] (start [.st [dB ex a, .i p], .st [dB ex' b, .i q]] []) lf)) =
  ((∀ (i : Nat), ((i < (List.length a)) → (((0 : Int) ≤ (((List.getD a i (0 : Nat)) : Nat) : Int)) ∧ ((((List.getD a i (0 : Nat)) : Nat) : Int) < (256 : Int))))) ∧
 ((∀ (i : Nat), ((i < (List.length b)) → (((0 : Int) ≤ (((List.getD b i (0 : Nat)) : Nat) : Int)) ∧ ((((List.getD b i (0 : Nat)) : Nat) : Int) < (256 : Int))))) ∧
 ((((ByteArray.toList (bytesOf (List.length a) (rowL a))) == (ByteArray.toList (bytesOf (List.length b) (rowL b)))) = true → 
 (Φ Ex.ret (St.mk [((0 : Nat), (AV.st [(AV.dat (List.length a) ex (1 : Nat) (rowL a)), (AV.v (Value.int IntKind.i64 p))])), ((1 : Nat), (AV.st [(AV.dat (List.length b) ex' (1 : Nat) (rowL b)), (AV.v (Value.int IntKind.i64 q))])), ((2 : Nat), (AV.ptr (2 : Nat) [])), ((3 : Nat), (AV.ptr (3 : Nat) [])), ((4 : Nat), (AV.sb (p == q)))] [((2 : Nat), (Blk.c (AV.st [(AV.dat (List.length a) ex (1 : Nat) (rowL a)), (AV.v (Value.int IntKind.i64 p))]))), ((3 : Nat), (Blk.c (AV.st [(AV.dat (List.length b) ex' (1 : Nat) (rowL b)), (AV.v (Value.int IntKind.i64 q))])))] [(3 : Nat), (2 : Nat)]))) ∧
 (((ByteArray.toList (bytesOf (List.length a) (rowL a))) == (ByteArray.toList (bytesOf (List.length b) (rowL b)))) = false → 
 (Φ Ex.ret (St.mk [((0 : Nat), (AV.st [(AV.dat (List.length a) ex (1 : Nat) (rowL a)), (AV.v (Value.int IntKind.i64 p))])), ((1 : Nat), (AV.st [(AV.dat (List.length b) ex' (1 : Nat) (rowL b)), (AV.v (Value.int IntKind.i64 q))])), ((2 : Nat), (AV.ptr (2 : Nat) [])), ((3 : Nat), (AV.ptr (3 : Nat) [])), ((4 : Nat), (AV.v (Value.bool false)))] [((2 : Nat), (Blk.c (AV.st [(AV.dat (List.length a) ex (1 : Nat) (rowL a)), (AV.v (Value.int IntKind.i64 p))]))), ((3 : Nat), (Blk.c (AV.st [(AV.dat (List.length b) ex' (1 : Nat) (rowL b)), (AV.v (Value.int IntKind.i64 q))])))] [(3 : Nat), (2 : Nat)])))))) := by kernel_rfl
end Go.Bu.W

