/- The abstract machine's definitions: abstract values, states, and a verification condition computed over the code of a Go function. -/
import Derived.Calls
namespace Go.Bu
inductive AV where
  | v (x : Value)
  | sb (b : Bool)
  | st (fs : List AV)
  | arr (n esz : Nat) (f : Nat → AV)
  | dat (n : Nat) (ex : Bool) (esz : Nat) (f : Nat → AV)
  | sl (id : Nat) (path : List Nat) (off len cap : Nat) (ex : Bool) (esz : Nat)
  | ptr (id : Nat) (path : List Nat)
  | pd (x : AV)
  | mp (id : Nat)
  | fn (f : Fn) (caps : List AV)
  | ifc (t : TypeId) (x : AV)
  | tup (vs : List AV)
abbrev AV.i (n : Int) : AV := .v (.int .i64 n)
abbrev AV.b (x : Bool) : AV := .sb x
inductive TD where
  | int (k : IntKind) | bool | str | slice (e : Nat) | array (n e : Nat) (asSt : Bool) | struct (fs : List (Nat × Nat)) | map (k e : Nat) | ptr (e : Nat) | func | iface | other
def TD.known : TD → Bool
 | .other => false
 | _ => true
structure TI where
  d : TD
  size : Nat
  bytes : Nat
inductive Blk where
  | c (t : AV)
  | m (has : List Value → Bool) (val : List Value → AV)
structure St where
  tm : List (Nat × AV)
  hp : List (Nat × Blk)
  seen : List Nat
def look {α : Type} : List (Nat × α) → Nat → Option α
 | [], _ => none
 | (k, x) :: r, n => match Nat.beq k n with | true => some x | false => look r n
def put {α : Type} : List (Nat × α) → Nat → α → List (Nat × α)
 | [], n, x => [(n, x)]
 | (k, y) :: r, n, x => match Nat.beq k n with | true => (n, x) :: r | false => match Nat.ble n k with | true => (n, x) :: (k, y) :: r | false => (k, y) :: put r n x
def memb : List Nat → Nat → Bool
 | [], _ => false
 | k :: r, n => match Nat.beq k n with | true => true | false => memb r n
def keepOnly {α : Type} : List (Nat × α) → List Nat → List (Nat × α)
 | [], _ => []
 | (k, x) :: r, l => match memb l k with | true => (k, x) :: keepOnly r l | false => keepOnly r l
def nthD {α : Type} : List α → Nat → α → α
 | [], _, d => d
 | x :: _, 0, _ => x
 | _ :: r, n + 1, d => nthD r n d
def nth? {α : Type} : List α → Nat → Option α
 | [], _ => none
 | x :: _, 0 => some x
 | _ :: r, n + 1 => nth? r n
def setAt {α : Type} : List α → Nat → α → List α
 | [], _, _ => []
 | _ :: r, 0, y => y :: r
 | x :: r, n + 1, y => x :: setAt r n y
def AV.size : AV → Nat
 | .st fs => sizes fs
 | .arr n e _ => n * e
 | _ => 1
where sizes : List AV → Nat
 | [] => 0
 | x :: r => x.size + sizes r
structure Ctx where
  tt : Nat → TI
  gl : Nat → Option AV
def leaf : AV → Bool
 | .st _ | .arr _ _ _ | .tup _ => false
 | _ => true
def fitsT (C : Ctx) (t : Nat) (x : AV) : Bool :=
 match Nat.beq x.size (C.tt t).size, x with
 | false, _ => false
 | true, .tup _ => false
 | true, x => match (C.tt t).d with
  | .struct _ | .array _ _ _ => !leaf x
  | .other => false
  | _ => leaf x
def kN : IntKind → Nat
 | .i8 => 0 | .i16 => 1 | .i32 => 2 | .i64 => 3 | .u8 => 4 | .u16 => 5 | .u32 => 6 | .u64 => 7
def kEq (a b : IntKind) : Bool := Nat.beq (kN a) (kN b)
def I64 (n : Int) : Prop := -9223372036854775808 ≤ n ∧ n ≤ 9223372036854775807
def bAnd (k : IntKind) (x y : Int) : Int := k.wrap ((BitVec.ofInt k.bits x &&& BitVec.ofInt k.bits y).toNat)
def bOr (k : IntKind) (x y : Int) : Int := k.wrap ((BitVec.ofInt k.bits x ||| BitVec.ofInt k.bits y).toNat)
def bXor (k : IntKind) (x y : Int) : Int := k.wrap ((BitVec.ofInt k.bits x ^^^ BitVec.ofInt k.bits y).toNat)
def bAndNot (k : IntKind) (x y : Int) : Int := k.wrap ((BitVec.ofInt k.bits x &&& ~~~BitVec.ofInt k.bits y).toNat)
def bShl (k : IntKind) (x y : Int) : Int := k.wrap (x * 2 ^ (min y.toNat k.bits))
def bShr (k : IntKind) (x y : Int) : Int := x.fdiv (2 ^ (min y.toNat k.bits))
structure Eff where
  v : AV
  wr : List (Nat × Blk) := []
  dead : List Nat := []
  rd : List Nat := []
  ob : List Prop := []
def zeroAV (tt : Nat → TI) : Nat → Nat → AV
 | 0, _ => .v (.tuple #[])
 | n + 1, t =>
  match (tt t).d with
  | .int k => .v (.int k 0)
  | .bool => .v (.bool false)
  | .str => .v (.string ByteArray.empty)
  | .slice _ => .dat 0 true 0 (fun _ => .v (.tuple #[]))
  | .array m e asSt => match asSt with | true => .st (List.replicate m (zeroAV tt n e)) | false => .arr m (tt e).size (fun _ => zeroAV tt n e)
  | .struct fs => .st (fs.map fun x => zeroAV tt n x.1)
  | .map _ _ => .v (.map none)
  | .ptr _ => .v (.pointer none)
  | .func => .v .nilFunc
  | .iface => .v .nilIface
  | .other => .v (.tuple #[])
def constAV : Value → Option AV
 | .slice none 0 0 => some (.dat 0 true 0 (fun _ => .v (.tuple #[])))
 | .agg _ => none
 | .tuple _ => none
 | x => some (.v x)
def St.val (C : Ctx) (S : St) : Operand → Option AV
 | .tmp t => look S.tm t
 | .const x => constAV x
 | .global g => match C.gl g with | some x => some (.pd x) | none => none
 | .func f => some (.fn (.func f) [])
def AV.pre : List AV → Nat → Nat
 | _, 0 => 0
 | [], _ => 0
 | x :: r, i + 1 => x.size + AV.pre r i
def AV.sub : AV → List Nat → Option AV
 | x, [] => some x
 | .st fs, i :: p => match nth? fs i with | some y => y.sub p | none => none
 | .arr _ _ f, i :: p => (f i).sub p
 | _, _ => none
def row1 : AV → Bool
 | .arr _ 1 _ => true
 | _ => false
def AV.noid : AV → Bool
 | .v _ | .sb _ | .arr _ _ _ | .dat _ _ _ _ | .pd _ => true
 | .st fs => noids fs
 | .tup fs => noids fs
 | .fn _ fs => noids fs
 | .ifc _ x => x.noid
 | _ => false
where noids : List AV → Bool
 | [] => true
 | x :: r => match x.noid with | true => noids r | false => false
def AV.upd : AV → List Nat → AV → Option AV
 | _, [], y => some y
 | .st fs, i :: p, y => match nth? fs i with
  | some z => match z.upd p y with | some z' => some (.st (setAt fs i z')) | none => none
  | none => none
 | .arr n e f, i :: p, y => match (f i).upd p y, noid y with | some z', true => some (.arr n e (fun j => if j = i then z' else f j)) | _, _ => none
 | _, _, _ => none
def asI : AV → Int | .v (.int _ n) => n | _ => 0
def ptrFree (tt : Nat → TI) : Nat → Nat → Bool
 | 0, _ => false
 | n + 1, t =>
  match (tt t).d with
  | .int _ | .bool | .str => true
  | .array _ e _ => ptrFree tt n e
  | .struct fs => fs.all fun x => ptrFree tt n x.1
  | _ => false
def isInt (k : IntKind) : AV → Prop
 | .v (.int k' _) => k' = k
 | _ => False
def aeq (C : Ctx) : Nat → Nat → AV → AV → Option (Bool × List Prop)
 | 0, _, _, _ => none
 | n + 1, t, x, y =>
  match (C.tt t).d, x, y with
  | .int _, .v (.int k a), .v (.int k' b) => match kEq k k' with | true => some (a == b, []) | false => none
  | .bool, .v (.bool a), .v (.bool b) => some (a == b, [])
  | .bool, .sb a, .sb b => some (a == b, [])
  | .bool, .v (.bool a), .sb b => some (a == b, [])
  | .bool, .sb a, .v (.bool b) => some (a == b, [])
  | .str, .v (.string a), .v (.string b) => some (a.toList == b.toList, [])
  | .struct ts, .st fs, .st gs => aeqs C n 0 ts fs gs
  | .array m e true, .st fs, .st gs => match (C.tt e).d.known with | true => aeqs C n 0 ((List.range m).map fun i => (e, i * (C.tt e).size)) fs gs | false => none
  | .array m e false, .arr m' _ f, .arr m'' _ g => match Nat.beq m m', Nat.beq m m'', (C.tt e).d, Nat.beq (C.tt e).size 1, Nat.ble 1 n with
   | true, true, .int k, true, true => some ((List.range m).all fun i => asI (f i) == asI (g i), [∀ i, i < m → isInt k (f i) ∧ isInt k (g i)])
   | _, _, _, _, _ => none
  | _, _, _ => none
where aeqs (C : Ctx) : Nat → Nat → List (Nat × Nat) → List AV → List AV → Option (Bool × List Prop)
 | 0, _, _, _, _ => none
 | _ + 1, _, [], [], [] => some (true, [])
 | n + 1, off, (t, o) :: ts, x :: r, y :: q => match Nat.beq o off, fitsT C t x, fitsT C t y with
  | true, true, true => match aeq C n t x y, aeqs C n (off + x.size) ts r q with | some (a, o), some (b, o') => some (a && b, o ++ o') | _, _ => none
  | _, _, _ => none
 | _ + 1, _, _, _, _ => none
def i64K (wr : Bool) (k : IntKind) : Bool := match wr with | true => false | false => kEq k .i64
def binI (wr : Bool) (op : BinOp) (k k' : IntKind) (a b : Int) : Option (AV × List Prop) :=
  match op with
  | .shl => some (.v (.int k (bShl k a b)), [0 ≤ b])
  | .shr => some (.v (.int k (bShr k a b)), [0 ≤ b])
  | _ => match kEq k k' with
   | false => none
   | true => match op with
    | .add => match i64K wr k with | true => some (.i (a + b), [I64 (a + b)]) | false => some (.v (.int k (k.wrap (a + b))), [])
    | .sub => match i64K wr k with | true => some (.i (a - b), [I64 (a - b)]) | false => some (.v (.int k (k.wrap (a - b))), [])
    | .mul => match i64K wr k with | true => some (.i (a * b), [I64 (a * b)]) | false => some (.v (.int k (k.wrap (a * b))), [])
    | .quo => match kEq k .i64 with | true => some (.i (a.tdiv b), [b ≠ 0, I64 (a.tdiv b)]) | false => some (.v (.int k (k.wrap (a.tdiv b))), [b ≠ 0])
    | .rem => some (.v (.int k (a.tmod b)), [b ≠ 0])
    | .and => some (.v (.int k (bAnd k a b)), [])
    | .or => some (.v (.int k (bOr k a b)), [])
    | .xor => some (.v (.int k (bXor k a b)), [])
    | .andNot => some (.v (.int k (bAndNot k a b)), [])
    | .eql => some (.b (a == b), [])
    | .neq => some (.b (a != b), [])
    | .lss => some (.b (decide (a < b)), [])
    | .leq => some (.b (decide (a ≤ b)), [])
    | .gtr => some (.b (decide (a > b)), [])
    | .geq => some (.b (decide (a ≥ b)), [])
    | _ => none
def binS (op : BinOp) (a b : ByteArray) : Option (AV × List Prop) :=
 match op with
 | .eql => some (.b (a.toList == b.toList), [])
 | .neq => some (.b (!(a.toList == b.toList)), [])
 | .add => some (.v (.string (a ++ b)), [((a.size + b.size : Nat) : Int) ≤ 9223372036854775807])
 | _ => none
def binAV (C : Ctx) (wr : Bool) (op : BinOp) (t : Nat) (x y : AV) : Option (AV × List Prop) :=
 match x, y with
 | .v (.int k a), .v (.int k' b) => binI wr op k k' a b
 | .v (.string a), .v (.string b) => binS op a b
 | x, y =>
  match op with
  | .eql => match ptrFree C.tt 9 t, aeq C 60 t x y with | true, some (r, o) => some (.b r, o) | _, _ => none
  | .neq => match ptrFree C.tt 9 t, aeq C 60 t x y with | true, some (r, o) => some (.b (!r), o) | _, _ => none
  | _ => none
def unAV (op : UnOp) (x : AV) : Option (AV × List Prop) :=
 match op, x with
 | .not, .v (.bool b) => some (.v (.bool (!b)), [])
 | .not, .sb b => some (.sb (!b), [])
 | .neg, .v (.int k a) => match kEq k .i64 with | true => some (.i (0 - a), [I64 (0 - a)]) | false => some (.v (.int k (k.wrap (0 - a))), [])
 | .xor, .v (.int k a) => some (.v (.int k (bXor k (if k.signed then -1 else k.max) a)), [])
 | _, _ => none
def newId (seen : List Nat) (d : Nat) : Nat → Option Nat
 | 0 => none
 | n + 1 => match memb seen d with | true => newId seen (d + 1000) n | false => some d
def intOf : AV → Option Int
 | .v (.int _ n) => some n
 | _ => none
def bnd (x : Option AV) (d : Int) : Option Int :=
 match x with
 | none => some d
 | some y => intOf y
def exIf (hi : Option AV) (ex : Bool) : Bool :=
 match hi with
 | none => ex
 | some _ => false
def cutAV (x : AV) (lo hi mx : Option AV) : Option (AV × List Prop) :=
 match x with
 | .v (.string s) => match bnd lo 0, bnd hi s.size, mx with
  | some l, some h, none => some (.v (.string (s.extract l.toNat h.toNat)), [0 ≤ l ∧ l ≤ h ∧ h ≤ s.size])
  | _, _, _ => none
 | .dat n ex e f => match bnd lo 0, bnd hi n, mx with
  | some l, some h, none => some (.dat (h.toNat - l.toNat) (exIf hi ex) e (fun i => f (l.toNat + i)), [0 ≤ l ∧ l ≤ h ∧ h ≤ n])
  | some l, some h, some m => match intOf m, hi with
   | some m, some _ => some (.dat (h.toNat - l.toNat) true e (fun i => f (l.toNat + i)), [0 ≤ l ∧ l ≤ h ∧ h = m ∧ h ≤ n])
   | _, _ => none
  | _, _, _ => none
 | .sl id p o n c ex e => match bnd lo 0, bnd hi n, mx with
  | some l, some h, none => some (.sl id p (o + l.toNat) (h.toNat - l.toNat) (c - l.toNat) ex e, [0 ≤ l ∧ l ≤ h ∧ h ≤ c])
  | some l, some h, some m => match intOf m, hi with
   | some m, some _ => some (.sl id p (o + l.toNat) (h.toNat - l.toNat) (m.toNat - l.toNat) true e, [0 ≤ l ∧ l ≤ h ∧ h ≤ m ∧ m ≤ c])
   | _, _ => none
  | _, _, _ => none
 | _ => none
def sizesAll (n : Nat) : List AV → Bool
 | [] => true
 | x :: r => match Nat.beq x.size n with | true => sizesAll n r | false => false
def lend (H : List (Nat × Blk)) : Nat → AV → Option AV
 | 0, _ => none
 | n + 1, x =>
  match x with
  | .v y => some (.v y)
  | .sb y => some (.sb y)
  | .arr a b f => some (.arr a b f)
  | .dat a b c f => some (.dat a b c f)
  | .pd y => some (.pd y)
  | .st fs => match lends H n fs with | some gs => some (.st gs) | none => none
  | .tup fs => match lends H n fs with | some gs => some (.tup gs) | none => none
  | .fn g fs => match lends H n fs with | some gs => some (.fn g gs) | none => none
  | .ifc t y => match lend H n y with | some z => some (.ifc t z) | none => none
  | .ptr id p => match look H id with
   | some (.c t) => match t.sub p with
    | some y => match lend H n y with | some z => some (.pd z) | none => none
    | none => none
   | _ => none
  | .sl id p o l _ _ e => match look H id with
   | some (.c t) => match t.sub p with
    | some (.arr _ e' f) => match Nat.beq e e' with | true => some (.dat l false e (fun i => f (o + i))) | false => none
    | some (.st fs) => match sizesAll e fs, lends H n fs with | true, some gs => some (.dat l false e (fun i => nthD gs (o + i) (.v (.tuple #[])))) | _, _ => none
    | _ => none
   | _ => none
  | .mp _ => none
where lends (H : List (Nat × Blk)) : Nat → List AV → Option (List AV)
 | 0, _ => none
 | _ + 1, [] => some []
 | n + 1, x :: r => match lend H n x, lends H n r with | some y, some q => some (y :: q) | _, _ => none
def keyOf : AV → Option (List Value)
 | .v x => some [x]
 | .sb b => some [.bool b]
 | .st fs => keysOf fs
 | _ => none
where keysOf : List AV → Option (List Value)
 | [] => some []
 | x :: r => match keyOf x, keysOf r with | some a, some b => some (a ++ b) | _, _ => none
def asB : AV → Bool | .v (.bool b) => b | .sb b => b | _ => false
def asByte : AV → UInt8 | .v (.int _ n) => UInt8.ofNat n.toNat | _ => 0
def isByte : AV → Prop | .v (.int .u8 n) => 0 ≤ n ∧ n < 256 | _ => False
def bytesOf (n : Nat) (f : Nat → AV) : ByteArray := ⟨((List.range n).map fun i => asByte (f i)).toArray⟩
def setParts (fs : List AV) : List (Nat × AV) → List AV
 | [] => fs
 | (i, x) :: r => setParts (setAt fs i x) r
def layParts (f : Nat → AV) : List (Nat × AV) → Nat → AV
 | [] => f
 | (i, x) :: r => layParts (fun j => match Nat.beq j i with | true => x | false => f j) r
def noTup : AV → Bool
 | .tup _ => false
 | _ => true
def partsOK (pl : Nat → Option (Nat × Nat)) (zs : List AV) : List (Nat × AV) → Bool
 | [] => true
 | (i, x) :: r => match nth? zs i, pl i, noTup x with
  | some z, some (o, n), true => match Nat.beq (AV.pre zs i) o, Nat.beq x.size n, Nat.beq z.size n with
   | true, true, true => partsOK pl (setAt zs i x) r
   | _, _, _ => false
  | _, _, _ => false
def partsA (n e : Nat) : List (Nat × AV) → Bool
 | [] => true
 | (i, x) :: r => match Nat.ble (i + 1) n, Nat.beq x.size e, x.noid, noTup x with
  | true, true, true, true => partsA n e r
  | _, _, _, _ => false
def placesS (tt : Nat → TI) (fs : List (Nat × Nat)) (i : Nat) : Option (Nat × Nat) := match nth? fs i with | some (t, o) => some (o, (tt t).size) | none => none
def allKnown (tt : Nat → TI) : List (Nat × Nat) → Bool
 | [] => true
 | (t, _) :: r => match (tt t).d.known with | true => allKnown tt r | false => false
def vals (C : Ctx) (S : St) : List (Nat × Operand) → Option (List (Nat × AV))
 | [] => some []
 | (i, x) :: r => match S.val C x, vals C S r with | some a, some l => some ((i, a) :: l) | _, _ => none
def valL (C : Ctx) (S : St) : List Operand → Option (List AV)
 | [] => some []
 | x :: r => match S.val C x, valL C S r with | some a, some l => some (a :: l) | _, _ => none
def Eff.of (v : AV) : Option Eff := some { v := v }
def Eff.ofOb : Option (AV × List Prop) → Option Eff
 | some (v, ob) => some { v := v, ob := ob }
 | none => none
def dataOf (H : List (Nat × Blk)) (x : AV) : Option (Nat × Nat × (Nat → AV) × List Nat) :=
 match x with
 | .dat n _ e f => some (n, e, f, [])
 | .v (.slice _ 0 _) => some (0, 0, (fun _ => .v (.tuple #[])), [])
 | .sl id p o n _ _ e => match look H id with
  | some (.c t) => match t.sub p with
   | some (.arr _ e' f) => match Nat.beq e e' with | true => some (n, e, (fun i => f (o + i)), [id]) | false => none
   | some (.st fs) => match AV.noid.noids fs, sizesAll e fs with | true, true => some (n, e, (fun i => nthD fs (o + i) (.v (.tuple #[]))), [id]) | _, _ => none
   | _ => none
  | _ => none
 | _ => none
def shp : AV → AV → Prop
 | .st fs, .st gs => shps fs gs
 | .arr n e f, .arr n' e' g => n = n' ∧ e = e' ∧ ∀ i, i < n → shp (f i) (g i)
 | x, y => leaf x = true ∧ leaf y = true
where shps : List AV → List AV → Prop
 | [], [] => True
 | x :: r, y :: q => shp x y ∧ shps r q
 | _, _ => False
def cat (n : Nat) (f g : Nat → AV) : Nat → AV := fun i => if i < n then f i else g (i - n)
def lay (o m : Nat) (f g : Nat → AV) : Nat → AV := fun i => if i < o then f i else if i < o + m then g (i - o) else f i
def appendEff (H : List (Nat × Blk)) (seen : List Nat) (d : Nat) (inpl : Bool) (bytes : Nat) (esz : Nat) (x : AV) (m : Nat) (g : Nat → AV) (rd : List Nat) : Option Eff :=
 match x with
 | .dat n ex e f => match ex, newId seen d 9 with
  | true, some id => match Nat.beq e esz with
   | true => some { v := .sl id [] 0 (n + m) (n + m) false esz, wr := [(id, .c (.arr (n + m) esz (cat n f g)))], rd := rd, ob := [n = 0 ∨ 0 < m, (n + m) * bytes ≤ 140737488355328] }
   | false => match Nat.beq n 0 with
    | true => some { v := .sl id [] 0 m m false esz, wr := [(id, .c (.arr m esz g))], rd := rd, ob := [m * bytes ≤ 140737488355328] }
    | false => none
  | _, _ => none
 | .sl id p o n c ex e => match look H id, Nat.beq e esz with
  | some (.c t), true => match inpl && !ex with
   | true => match t.sub p with
    | some (.arr k e' f) => match Nat.beq e' e, t.upd p (.arr k e' (lay (o + n) m f g)) with
     | true, some t' => some { v := .sl id p o (n + m) c ex e, wr := [(id, .c t')], rd := id :: rd, ob := [n + m ≤ c, ∀ i, i < m → shp (f (o + n + i)) (g i)] }
     | _, _ => none
    | _ => none
   | false => match o, p, dataOf H (.sl id p o n c ex e) with
    | 0, [], some (_, _, f, _) => match newId seen d 9 with
     | some id' => some { v := .sl id' [] 0 (n + m) (n + m) false esz, wr := [(id', .c (.arr (n + m) esz (cat n f g)))], dead := (match ex && inpl with | true => [] | false => [id]), rd := id :: rd, ob := (match ex && inpl with | true => [c < n + m] | false => []) ++ [(n + m) * bytes ≤ 140737488355328] }
     | none => none
    | _, _, _ => none
  | _, _ => none
 | _ => none
def copyEff (H : List (Nat × Blk)) (esz : Nat) (x : AV) (m : Nat) (g : Nat → AV) (rd : List Nat) : Option Eff :=
 match x with
 | .sl id p o n _ _ e => match look H id, Nat.beq e esz with
  | some (.c t), true => match t.sub p with
   | some (.arr k e' f) => match Nat.beq e' e, t.upd p (.arr k e' (lay o (min m n) f g)) with
    | true, some t' => some { v := .i (min m n : Nat), wr := [(id, .c t')], rd := id :: rd, ob := [∀ i, i < min m n → shp (f (o + i)) (g i)] }
    | _, _ => none
   | _ => none
  | _, _ => none
 | _ => none
def minMax (mx : Bool) : AV → List AV → Option AV
 | x, [] => some x
 | .v (.int k a), .v (.int _ b) :: r => minMax mx (.v (.int k (match mx with | true => max a b | false => min a b))) r
 | _, _ => none
def isNilC : Operand → Bool
 | .const (.slice none 0 0) => true
 | _ => false
def nilEff (o : BinOp) (d : TD) (x : Option AV) : Option Eff :=
 match o, d, x with
 | .eql, .slice _, some (.dat n _ _ _) => some { v := .v (.bool false), ob := [0 < n] }
 | .neq, .slice _, some (.dat n _ _ _) => some { v := .v (.bool true), ob := [0 < n] }
 | .eql, .slice _, some (.v (.slice a _ _)) => some { v := .v (.bool a.isNone) }
 | .neq, .slice _, some (.v (.slice a _ _)) => some { v := .v (.bool (!a.isNone)) }
 | _, _, _ => none
def builtinEff (C : Ctx) (S : St) (d : Nat) (inpl : Bool) (b : Builtin) (ts : List Nat) (args : List AV) : Option Eff :=
 match b, ts, args with
 | .len, t0 :: _, [x] => match (C.tt t0).d, x with
  | .array n _ _, _ => some { v := .i n }
  | .slice _, .dat n _ _ _ => some { v := .i n }
  | .slice _, .sl _ _ _ n _ _ _ => some { v := .i n }
  | .str, .v (.string s) => some { v := .i s.size }
  | _, _ => none
 | .append, t0 :: t1 :: _, [x, y] => match (C.tt t0).d, (C.tt t1).d with
  | .slice e, .str => match y with
   | .v (.string s) => match Nat.beq (C.tt e).size 1, (C.tt e).d.known, Nat.ble 1 (C.tt e).bytes with
    | true, true, true => appendEff S.hp S.seen d inpl (C.tt e).bytes (C.tt e).size x s.size (fun i => .v (.int .u8 (s.data.toList.getD i 0).toNat)) []
    | _, _, _ => none
   | _ => none
  | .slice e, .slice _ => match dataOf S.hp y with
   | some (m, e', g, rd) => match Nat.beq e' (C.tt e).size || Nat.beq m 0, (C.tt e).d.known, Nat.ble 1 (C.tt e).bytes with
    | true, true, true => appendEff S.hp S.seen d inpl (C.tt e).bytes (C.tt e).size x m g rd
    | _, _, _ => none
   | none => none
  | .slice e, .int _ => match y with
   | .v (.int .i64 z) => match (C.tt e).d.known, Nat.ble 1 (C.tt e).bytes, appendEff S.hp S.seen d inpl (C.tt e).bytes (C.tt e).size x z.toNat (fun _ => zeroAV C.tt 9 e) [] with
    | true, true, some ef => some { ef with ob := (0 ≤ z ∧ z.toNat * (C.tt e).bytes ≤ 140737488355328) :: ef.ob }
    | _, _, _ => none
   | _ => none
  | _, _ => none
 | .copy, t0 :: t1 :: _, [x, y] => match (C.tt t0).d, (C.tt t1).d with
  | .slice e, .str => match y with
   | .v (.string s) => match Nat.beq (C.tt e).size 1, (C.tt e).d.known with
    | true, true => copyEff S.hp (C.tt e).size x s.size (fun i => .v (.int .u8 (s.data.toList.getD i 0).toNat)) []
    | _, _ => none
   | _ => none
  | .slice e, .slice _ => match dataOf S.hp y with
   | some (m, e', g, rd) => match Nat.beq e' (C.tt e).size || Nat.beq m 0, (C.tt e).d.known with
    | true, true => copyEff S.hp (C.tt e).size x m g rd
    | _, _ => none
   | none => none
  | _, _ => none
 | .min, _, x :: r => match minMax false x r with | some z => some { v := z } | none => none
 | .max, _, x :: r => match minMax true x r with | some z => some { v := z } | none => none
 | .cap, t0 :: _, [x] => match (C.tt t0).d, x with
  | .slice _, .dat n true _ _ => some { v := .i n }
  | .slice _, .sl _ _ _ _ c true _ => some { v := .i c }
  | _, _ => none
 | .clear, t0 :: _, [x] => match (C.tt t0).d, x with
  | .slice e, .sl id p o n c ex e' => match (C.tt e).d.known, copyEff S.hp (C.tt e).size (.sl id p o n c ex e') n (fun _ => zeroAV C.tt 9 e) [] with
   | true, some ef => some { ef with v := .tup [] }
   | _, _ => none
  | _, _ => none
 | _, _, _ => none
def convEff (C : Ctx) (S : St) (d : Nat) (src dst : Nat) (x : AV) : Option Eff :=
 match (C.tt src).d.known, (C.tt dst).d, x with
 | true, .int k, .v (.int _ n) => match kEq k .i64 with
  | true => some { v := .i n, ob := [I64 n] }
  | false => some { v := .v (.int k (k.wrap n)) }
 | true, .str, .v (.string s) => some { v := .v (.string s) }
 | true, .slice e, .v (.string s) => match newId S.seen d 9, (C.tt e).d, (C.tt src).d with
  | some id, .int .u8, .str => some { v := .sl id [] 0 s.size s.size false 1, wr := [(id, .c (.arr s.size 1 (fun i => .v (.int .u8 (s.data.toList.getD i 0).toNat))))] }
  | _, _, _ => none
 | true, .slice e, .sl id p o n c ex es => match (C.tt src).d, (C.tt e).d, Nat.beq src dst, look S.hp id with
  | .slice _, .int .u8, true, some (.c b) => match row1 b with | false => none | true => some { v := .sl id p o n c ex es, wr := [(id, .c b)], rd := [id], ob := [0 < c] }
  | _, _, _, _ => none
 | true, .str, y => match (C.tt src).d with
  | .slice et => match dataOf S.hp y, (C.tt et).d with
   | some (n, e, f, rd), .int .u8 => match Nat.beq e 1 with
    | true => some { v := .v (.string (bytesOf n f)), rd := rd, ob := [∀ i, i < n → isByte (f i)] }
    | false => none
   | _, _ => none
  | _ => none
 | _, _, _ => none
def intRow (k : IntKind) : List AV → Option (List Int)
 | [] => some []
 | x :: r => match x with
  | .v (.int k' a) => match kEq k k' with
   | true => match intRow k r with | some l => some (a :: l) | none => none
   | false => none
  | _ => none
def leaves : List AV → Bool
 | [] => true
 | x :: r => match leaf x with | true => leaves r | false => false
def optVal (C : Ctx) (S : St) : Option Operand → Option (Option AV)
 | none => some none
 | some x => match S.val C x with | some v => some (some v) | none => none
def opEff (C : Ctx) (S : St) (d : Nat) (inpl : Bool) (op : Op) : Option Eff :=
 match op with
 | .move x | .assign x => match S.val C x with | some v => some { v := v } | none => none
 | .pick c a b => match S.val C c with
  | some (.v (.bool x)) => match x with
   | true => match S.val C a with | some v => some { v := v } | none => none
   | false => match S.val C b with | some v => some { v := v } | none => none
  | _ => none
 | .alloc e => match newId S.seen d 9, (C.tt e).d.known with | some id, true => some { v := .ptr id [], wr := [(id, .c (zeroAV C.tt 9 e))] } | _, _ => none
 | .box _ x => match S.val C x with
  | some (.tup _) => none
  | some v => match newId S.seen d 9 with | none => none | some id => some { v := .ptr id [], wr := [(id, .c v)] }
  | none => none
 | .build t ps => match vals C S ps.toList, (C.tt t).d with
  | some l, .struct fs => match partsOK (placesS C.tt fs) (fs.map fun x => zeroAV C.tt 8 x.1) l, allKnown C.tt fs with
   | true, true => some { v := .st (setParts (fs.map fun x => zeroAV C.tt 8 x.1) l) }
   | _, _ => none
  | some l, .array n e asSt => match (C.tt e).d.known, asSt with
   | true, true => match partsOK (fun i => some (i * (C.tt e).size, (C.tt e).size)) (List.replicate n (zeroAV C.tt 8 e)) l with
    | true => some { v := .st (setParts (List.replicate n (zeroAV C.tt 8 e)) l) }
    | false => none
   | true, false => match partsA n (C.tt e).size l with
    | true => some { v := .arr n (C.tt e).size (layParts (fun _ => zeroAV C.tt 8 e) l) }
    | false => none
   | _, _ => none
  | _, _ => none
 | .buildSlice t n ps => match vals C S ps.toList, (C.tt t).d, newId S.seen d 9 with
  | some l, .slice e, some id => match partsOK (fun i => some (i * (C.tt e).size, (C.tt e).size)) (List.replicate n (zeroAV C.tt 9 e)) l, (C.tt e).d.known, Nat.ble (n * (C.tt e).size) 16777216 with
   | true, true, true => match sizesAll (C.tt e).size (setParts (List.replicate n (zeroAV C.tt 9 e)) l) with
    | true => match inpl with
     | false => some { v := .sl id [] 0 n n true (C.tt e).size, wr := [(id, .c (.st (setParts (List.replicate n (zeroAV C.tt 9 e)) l)))] }
     | true => match (C.tt e).d, Nat.beq (C.tt e).size 1 with
      | .int k, true => match intRow k (setParts (List.replicate n (zeroAV C.tt 9 e)) l) with
       | some is => some { v := .sl id [] 0 n n true (C.tt e).size, wr := [(id, .c (.arr n (C.tt e).size (fun i => .v (.int k (nthD is i 0)))))] }
       | none => none
      | _, _ => none
    | false => none
   | _, _, _ => none
  | _, _, _ => none
 | .load t a => match S.val C a with
  | some (.pd x) => match fitsT C t x with | true => some { v := x } | false => none
  | some (.ptr id p) => match look S.hp id with
   | some (.c b) => match b.sub p with
    | some x => match fitsT C t x with | true => some { v := x, rd := [id] } | false => none
    | none => none
   | _ => none
  | _ => none
 | .store t a x => match S.val C a, S.val C x with
  | some (.ptr id p), some v => match look S.hp id with
   | some (.c b) => match b.sub p, b.upd p v, fitsT C t v with
    | some y, some b', true => some { v := .tup [], wr := [(id, .c b')], rd := [id], ob := (match leaf v, leaf y with | true, true => [] | true, false => [shp y v] | false, _ => [shp y v]) }
    | _, _, _ => none
   | _ => none
  | _, _ => none
 | .nilCheck x => match S.val C x with
  | some (.pd y) => some { v := .pd y }
  | some (.ptr id p) => some { v := .ptr id p }
  | some (.fn (.func f) l) => some { v := .fn (.func f) l }
  | _ => none
 | .binOp o t x y _ => match isNilC y with
  | true => nilEff o (C.tt t).d (S.val C x)
  | false => match S.val C x, S.val C y with | some a, some b => Eff.ofOb (binAV C inpl o t a b) | _, _ => none
 | .unOp o _ x => match S.val C x with | some a => Eff.ofOb (unAV o a) | none => none
 | .convert src dst x => match S.val C x with | some a => convEff C S d src dst a | none => none
 | .sliceToArrayPointer t x => match S.val C x, (C.tt t).d with
  | some (.dat n _ e f), .array m et _ => match Nat.ble 1 m, Nat.beq e (C.tt et).size with
   | true, true => some { v := .pd (.arr m e f), ob := [m ≤ n] }
   | _, _ => none
  | _, _ => none
 | .makeInterface t x => match S.val C x, (C.tt t).d with
  | _, .iface => none
  | some a, _ => match fitsT C t a with | true => some { v := .ifc t a } | false => none
  | none, _ => none
 | .makeFunc f first caps => match first.toList, valL C S caps.toList with
  | [], some l => match leaves l with | true => some { v := .fn f l } | false => none
  | _, _ => none
 | .makeSlice t l c => match S.val C l, S.val C c, (C.tt t).d, newId S.seen d 9 with
  | some (.v (.int _ l)), some (.v (.int _ c)), .slice e, some id => match (C.tt e).d.known with
   | true => some { v := .sl id [] 0 l.toNat c.toNat true (C.tt e).size, wr := [(id, .c (.arr c.toNat (C.tt e).size (fun _ => zeroAV C.tt 9 e)))], ob := [0 ≤ l ∧ l ≤ c, (C.tt e).bytes * c ≤ 281474976710656 ∧ c ≤ 9223372036854775807] }
   | false => none
  | _, _, _, _ => none
 | .slice t x lo hi mx => match S.val C x, optVal C S lo, optVal C S hi, optVal C S mx with
  | some v, some l, some h, some m => match v, (C.tt t).d with
   | .ptr id p, .array n e _ => match look S.hp id with
    | some (.c b) => match b.sub p with
     | some (.arr n' e' _) => match Nat.beq n n', Nat.beq e' (C.tt e).size, (C.tt e).d.known with
      | true, true, true => match cutAV (.sl id p 0 n n true e') l h m with
       | some (v, ob) => some { v := v, rd := [id], ob := ob }
       | none => none
      | _, _, _ => none
     | _ => none
    | _ => none
   | .v (.string s), .str => Eff.ofOb (cutAV (.v (.string s)) l h m)
   | .dat n ex e' f, .slice e => match Nat.beq e' (C.tt e).size, (C.tt e).d.known with
    | true, true => Eff.ofOb (cutAV (.dat n ex e' f) l h m)
    | false, true => match bnd l 0, bnd h n, m with
     | some i, some j, none => some { v := .dat 0 true e' f, ob := [n = 0 ∧ ex = true ∧ 0 ≤ i ∧ i ≤ j ∧ j ≤ 0] }
     | _, _, _ => none
    | _, _ => none
   | .sl id p o n c ex e', .slice e => match Nat.beq e' (C.tt e).size, (C.tt e).d.known with
    | true, true => Eff.ofOb (cutAV (.sl id p o n c ex e') l h m)
    | _, _ => none
   | _, _ => none
  | _, _, _, _ => none
 | .fieldAddr t x i => match S.val C x, (C.tt t).d with
  | some (.pd (.st fs)), .struct gs => match nth? fs i, nth? gs i with
   | some y, some (ft, o) => match Nat.beq (AV.pre fs i) o, fitsT C ft y, Nat.beq y.size 0 with
    | true, true, false => some { v := .pd y }
    | _, _, _ => none
   | _, _ => none
  | some (.ptr id p), .struct gs => match look S.hp id with
   | some (.c b) => match b.sub p with
    | some (.st fs) => match nth? fs i, nth? gs i with
     | some y, some (ft, o) => match Nat.beq (AV.pre fs i) o, fitsT C ft y, Nat.beq y.size 0 with
      | true, true, false => some { v := .ptr id (p ++ [i]), rd := [id] }
      | _, _, _ => none
     | _, _ => none
    | _ => none
   | _ => none
  | _, _ => none
 | .field t x i => match S.val C x, (C.tt t).d with
  | some (.st fs), .struct gs => match nth? fs i, nth? gs i with
   | some y, some (ft, o) => match Nat.beq (AV.pre fs i) o, fitsT C ft y with
    | true, true => some { v := y }
    | _, _ => none
   | _, _ => none
  | _, _ => none
 | .indexAddr t x ix => match S.val C x, S.val C ix, (C.tt t).d with
  | some (.dat n _ e f), some (.v (.int _ i)), .slice et => match Nat.beq e (C.tt et).size, (C.tt et).d.known with
   | true, true => some { v := .pd (f i.toNat), ob := [0 ≤ i ∧ i < n] }
   | _, _ => none
  | some (.sl id p o n _ _ e), some (.v (.int _ i)), .slice et => match Nat.beq e (C.tt et).size, (C.tt et).d.known with
   | true, true => some { v := .ptr id (p ++ [o + i.toNat]), ob := [0 ≤ i ∧ i < n] }
   | _, _ => none
  | some (.pd (.arr n e f)), some (.v (.int _ i)), .array m et _ => match Nat.beq e (C.tt et).size, Nat.beq n m, (C.tt et).d.known with
   | true, true, true => some { v := .pd (f i.toNat), ob := [0 ≤ i ∧ i < n] }
   | _, _, _ => none
  | some (.pd (.st fs)), some (.v (.int _ i)), .array m et _ => match nth? fs i.toNat, Nat.beq (AV.pre fs i.toNat) (i.toNat * (C.tt et).size), Nat.beq fs.length m, (C.tt et).d.known with
   | some y, true, true, true => some { v := .pd y, ob := [0 ≤ i] }
   | _, _, _, _ => none
  | some (.ptr id p), some (.v (.int _ i)), .array m et _ => match look S.hp id with
   | some (.c b) => match b.sub p with
    | some (.arr n e _) => match Nat.beq e (C.tt et).size, Nat.beq n m, (C.tt et).d.known with
     | true, true, true => some { v := .ptr id (p ++ [i.toNat]), rd := [id], ob := [0 ≤ i ∧ i < n] }
     | _, _, _ => none
    | some (.st fs) => match nth? fs i.toNat, Nat.beq (AV.pre fs i.toNat) (i.toNat * (C.tt et).size), Nat.beq fs.length m, (C.tt et).d.known with
     | some _, true, true, true => some { v := .ptr id (p ++ [i.toNat]), rd := [id], ob := [0 ≤ i] }
     | _, _, _, _ => none
    | _ => none
   | _ => none
  | _, _, _ => none
 | .index t x ix => match S.val C x, S.val C ix, (C.tt t).d with
  | some (.arr n e f), some (.v (.int _ i)), .array m et _ => match Nat.beq e (C.tt et).size, Nat.beq n m, fitsT C et (f i.toNat) with
   | true, true, true => some { v := f i.toNat, ob := [0 ≤ i ∧ i < n] }
   | _, _, _ => none
  | some (.st fs), some (.v (.int _ i)), .array m et _ => match nth? fs i.toNat, Nat.beq fs.length m with
   | some y, true => match Nat.beq (AV.pre fs i.toNat) (i.toNat * (C.tt et).size), fitsT C et y with
    | true, true => some { v := y, ob := [0 ≤ i] }
    | _, _ => none
   | _, _ => none
  | some (.v (.string s)), some (.v (.int _ i)), .str => some { v := .v (.int .u8 (s.data.toList.getD i.toNat 0).toNat), ob := [0 ≤ i ∧ i < s.size] }
  | _, _, _ => none
 | .extract x i => match S.val C x with
  | some (.tup l) => match nth? l i with | some y => some { v := y } | none => none
  | _ => none
 | .call c => match c.callee with
  | .builtin b => match valL C S c.args.toList with
   | some l => builtinEff C S d inpl b c.argTypes.toList l
   | none => none
  | _ => none
 | _ => none
def putAll : List (Nat × Blk) → List (Nat × Blk) → List (Nat × Blk)
 | H, [] => H
 | H, (i, b) :: r => putAll (put H i b) r
def dropAll {α : Type} : List (Nat × α) → List Nat → List (Nat × α)
 | [], _ => []
 | (k, x) :: r, l => match memb l k with | true => dropAll r l | false => (k, x) :: dropAll r l
def addSeen : List Nat → List (Nat × Blk) → List Nat
 | s, [] => s
 | s, (i, _) :: r => match memb s i with | true => addSeen s r | false => addSeen (i :: s) r
def St.apply (S : St) (dst : Option Nat) (e : Eff) : St :=
 { tm := match dst with | some d => put S.tm d e.v | none => S.tm, hp := dropAll (putAll S.hp e.wr) e.dead, seen := addSeen S.seen e.wr }
def reach (H : List (Nat × Blk)) : Nat → List AV → List Nat → List Nat
 | 0, _, acc => acc
 | _ + 1, [], acc => acc
 | n + 1, x :: r, acc =>
  match x with
  | .st fs | .tup fs | .fn _ fs => reach H n r (reach H n fs acc)
  | .ifc _ y => reach H n r (reach H n [y] acc)
  | .ptr id _ | .sl id _ _ _ _ _ _ | .mp id => match memb acc id with
   | true => reach H n r acc
   | false => match look H id with
    | some (.c t) => reach H n r (reach H n [t] (acc ++ [id]))
    | _ => reach H n r (acc ++ [id])
  | _ => reach H n r acc
def idxOf : List Nat → Nat → Nat → Option Nat
 | [], _, _ => none
 | k :: r, n, i => match Nat.beq k n with | true => some i | false => idxOf r n (i + 1)
def ren (m : Nat → Option Nat) : Nat → AV → Option AV
 | 0, _ => none
 | n + 1, x =>
  match x with
  | .st fs => match rens m n fs with | some gs => some (.st gs) | none => none
  | .tup fs => match rens m n fs with | some gs => some (.tup gs) | none => none
  | .fn f fs => match rens m n fs with | some gs => some (.fn f gs) | none => none
  | .ifc t y => match ren m n y with | some z => some (.ifc t z) | none => none
  | .ptr id p => match m id with | some k => some (.ptr k p) | none => none
  | .sl id p a b c d e => match m id with | some k => some (.sl k p a b c d e) | none => none
  | .mp id => match m id with | some k => some (.mp k) | none => none
  | .v y => some (.v y)
  | .sb y => some (.sb y)
  | .arr a b f => some (.arr a b f)
  | .dat a b c f => some (.dat a b c f)
  | .pd y => some (.pd y)
where rens (m : Nat → Option Nat) : Nat → List AV → Option (List AV)
 | 0, _ => none
 | _ + 1, [] => some []
 | n + 1, x :: r => match ren m n x, rens m n r with | some y, some q => some (y :: q) | _, _ => none
def renBlk (m : Nat → Option Nat) : Blk → Option Blk
 | .c t => match ren m 99 t with | some t' => some (.c t') | none => none
 | .m h v => some (.m h v)
def renHp (m : Nat → Option Nat) : List (Nat × Blk) → Option (List (Nat × Blk))
 | [] => some []
 | (i, b) :: r => match m i with
  | some k => match renBlk m b, renHp m r with | some b', some r' => some (put r' k b') | _, _ => none
  | none => renHp m r
structure Way where
  cr : Nat → List AV → List (Nat × Blk) → Option (AV × List (Nat × Blk))
  byref : Nat → Bool
  keep : List Nat
  inpl : List Nat
  nt : Nat
  cuts : List Nat
  ymem : List Nat := []
inductive Ex where | normal | exit (id : Nat) | ret
inductive VC where
  | fork (b : Bool) (t e : VC)
  | need (p : Prop) (k : VC)
  | leaf (e : Ex) (S : St)
  | call (g : Nat) (args : List AV) (H : List (Nat × Blk)) (r : AV) (H' : List (Nat × Blk)) (k : VC)
  | yld (L : List Nat) (l : Nat) (args : List AV) (H : List (Nat × Blk)) (r : AV) (H' : List (Nat × Blk)) (k : VC)
  | loop (p : List Nat) (b : Code) (S : St) (k : Ex → St → VC)
  | rng (p : List Nat) (c : Code) (S : St) (k : Ex → St → VC)
  | fail (why : Nat)
  | cut (p : List Nat) (S : St) (k : St → VC)
def needs : List Prop → VC → VC
 | [], k => k
 | p :: r, k => .need p (needs r k)
def know (tm : List (Nat × AV)) : List (Nat × Bool) → List (Nat × AV)
 | [] => tm
 | (t, b) :: r => put (know tm r) t (.v (.bool b))
def St.know (S : St) (kn : List (Nat × Bool)) : St := { S with tm := Bu.know S.tm kn }
def St.only (S : St) (l : List Nat) : St := { S with tm := keepOnly S.tm l }
def forget (kn : List (Nat × Bool)) (dst : Option Nat) : List (Nat × Bool) := match dst with | some d => dropAll kn [d] | none => kn
def noMem : AV → Prop
 | .v _ => True
 | .sb _ => True
 | .st fs => noMems fs
 | .arr n _ f => ∀ i, i < n → noMem (f i)
 | .tup fs => noMems fs
 | _ => False
where noMems : List AV → Prop
 | [] => True
 | x :: r => noMem x ∧ noMems r
def keysOf {α : Type} : List (Nat × α) → List Nat
 | [] => []
 | (k, _) :: r => k :: keysOf r
def minus : List Nat → List Nat → List Nat
 | [], _ => []
 | k :: r, l => match memb l k with | true => minus r l | false => k :: minus r l
def distinct : List Nat → Bool
 | [] => true
 | k :: r => match memb r k with | true => false | false => distinct r
def backId (L seen ks : List Nat) (d k : Nat) : Option Nat :=
 match memb ks k with
 | false => none
 | true => match nth? L k with
  | some id => some id
  | none => newId seen (d + 1000 * (k - L.length)) 9
def withTm (S : St) (dst : Option Nat) (r : AV) : List (Nat × AV) := match dst with | some d => put S.tm d r | none => S.tm
def liveIn (H : List (Nat × Blk)) (L : List Nat) (i : Nat) : Option Nat := match look H i with | some _ => idxOf L i 0 | none => none
def mapAll (m : Nat → Option Nat) : List Nat → Option (List Nat)
 | [] => some []
 | k :: r => match m k, mapAll m r with | some x, some l => some (x :: l) | _, _ => none
def backEff (S : St) (L : List Nat) (d : Nat) (r : AV) (H' : List (Nat × Blk)) : Option Eff :=
 match ren (backId L S.seen (keysOf H') d) 40 r, renHp (backId L S.seen (keysOf H') d) H', mapAll (backId L S.seen (keysOf H') d) (keysOf H') with
 | some r', some H'', some ks => match distinct ks, distinct (keysOf H'') with
  | true, true => some { v := r', wr := H'', dead := minus L (keysOf H''), rd := L }
  | _, _ => none
 | _, _, _ => none
def allLive (H : List (Nat × Blk)) : List Nat → Bool
 | [] => true
 | k :: r => match look H k with | some _ => allLive H r | none => false
def callVC (W : Way) (S : St) (d : Nat) (free : Bool) (g : Nat) (args : List AV) (K : Eff → VC) : VC :=
 match W.byref g with
 | false => match reach S.hp 40 args [] with
  | L => match lend.lends (keepOnly S.hp L) 40 args with
   | some args' => match W.cr g args' [] with
    | some (r, H') => match free with
     | true => match ren (fun _ => none) 40 r with
      | some _ => .call g args' [] r H' (.need (noMem r) (K { v := r, rd := L }))
      | none => .fail 20
     | false => match backEff S [] d r H' with
      | some e => .call g args' [] r H' (K { e with dead := minus L (keysOf e.wr), rd := L })
      | none => .fail 21
    | none => .fail 22
   | none => .fail 23
 | true => match reach S.hp 40 args [] with
  | L => match ren.rens (liveIn (keepOnly S.hp L) L) 40 args, renHp (liveIn (keepOnly S.hp L) L) (keepOnly S.hp L) with
   | some args', some H => match W.cr g args' H, allLive S.hp L, distinct L with
    | some (r, H'), true, true => match backEff S L d r H' with
     | some e => .call g args' H r H' (K e)
     | none => .fail 24
    | _, _, _ => .fail 25
   | _, _ => .fail 26
def yldVC (W : Way) (S : St) (d : Nat) (l : Nat) (args : List AV) (K : Eff → VC) : VC :=
 match reach S.hp 40 args W.ymem with
 | L => match ren.rens (liveIn (keepOnly S.hp L) L) 40 args, renHp (liveIn (keepOnly S.hp L) L) (keepOnly S.hp L) with
  | some args', some H => match W.cr 1000000 args' H, allLive S.hp L, distinct L with
   | some (r, H'), true, true => match backEff S L d r H' with
    | some e => .yld L l args' H r H' (K e)
    | none => .fail 24
   | _, _, _ => .fail 25
  | _, _ => .fail 26
def noTups : List AV → Bool
 | [] => true
 | x :: r => match noTup x with | true => noTups r | false => false
def dstOK (n : Nat) (dst : Option Nat) : Bool := match dst with | some d => Nat.ble (d + 1) n | none => true
def slot (dst : Option Nat) : Nat := match dst with | some d => d | none => 0
def vcOp (C : Ctx) (W : Way) (o : Oper) (S : St) (K : Eff → VC) : VC :=
 match dstOK W.nt o.dst with
 | false => .fail 2
 | true => match o.op with
  | .call c => match c.callee with
   | .value f => match S.val C f, valL C S c.args.toList with
    | some (.fn (.func g) caps), some xs => match noTups (xs ++ caps) with
     | true => callVC W S (slot o.dst) (ptrFree C.tt 9 o.type) g (xs ++ caps) K
     | false => .fail 1
    | some (.v (.func (.yield l) fs _)), some xs => match fs.toList, noTups xs with
     | [], true => yldVC W S (slot o.dst) l xs K
     | _, _ => .fail 1
    | _, _ => .fail 3
   | _ => match opEff C S (slot o.dst) (memb W.inpl (slot o.dst)) o.op with
    | some e => needs e.ob (K e)
    | none => .fail 4
  | _ => match opEff C S (slot o.dst) (memb W.inpl (slot o.dst)) o.op with
   | some e => needs e.ob (K e)
   | none => .fail 5
inductive Gd where
  | yes | no | ask (t : Nat) (b want : Bool) | bad
def eqB (x y : Bool) : Gd := match x, y with | true, true | false, false => .yes | _, _ => .no
def dstAt (all : List Oper) (j : Nat) : Option Nat := match nth? all j with | some g => g.dst | none => none
def guardOf (all : List Oper) (S : St) (kn : List (Nat × Bool)) (o : Oper) : Gd :=
 match o.guard with
 | none => .yes
 | some (j, want) => match dstAt all j with
  | none => .bad
  | some t => match look kn t with
   | some x => eqB x want
   | none => match look S.tm t with
    | some (.v (.bool x)) => eqB x want
    | some (.sb b) => .ask t b want
    | some (.tup []) => .no
    | _ => .bad
def skipEff : Eff := { v := .tup [] }
def vcOps (C : Ctx) (W : Way) (all : List Oper) : List Oper → St → List (Nat × Bool) → List Eff → (St → List (Nat × Bool) → List Eff → VC) → VC
 | [], S, kn, tr, K => K S kn tr
 | o :: r, S, kn, tr, K => match guardOf all S kn o with
  | .yes => vcOp C W o (S.know kn) (fun e => vcOps C W all r (S.apply o.dst e) (forget kn o.dst) (e :: tr) K)
  | .no => match dstOK W.nt o.dst with
   | true => vcOps C W all r (S.apply o.dst skipEff) (forget kn o.dst) (skipEff :: tr) K
   | false => .fail 6
  | .ask t b want => .fork b
    (match want with
     | true => vcOp C W o (S.know ((t, true) :: kn)) (fun e => vcOps C W all r (S.apply o.dst e) (forget ((t, true) :: kn) o.dst) (e :: tr) K)
     | false => match dstOK W.nt o.dst with
      | true => vcOps C W all r (S.apply o.dst skipEff) (forget ((t, true) :: kn) o.dst) (skipEff :: tr) K
      | false => .fail 6)
    (match want with
     | false => vcOp C W o (S.know ((t, false) :: kn)) (fun e => vcOps C W all r (S.apply o.dst e) (forget ((t, false) :: kn) o.dst) (e :: tr) K)
     | true => match dstOK W.nt o.dst with
      | true => vcOps C W all r (S.apply o.dst skipEff) (forget ((t, false) :: kn) o.dst) (skipEff :: tr) K
      | false => .fail 6)
  | .bad => .fail 7
def unite : List Nat → List Nat → List Nat
 | [], l => l
 | k :: r, l => match memb l k with | true => unite r l | false => unite r (k :: l)
def befores : List Oper → List (List Nat) → List (List Nat)
 | [], acc => acc
 | o :: r, acc => befores r (acc ++ [addAll o.after.toList acc []])
where addAll : List Edge → List (List Nat) → List Nat → List Nat
 | [], _, l => l
 | e :: r, acc, l => match Region.binds .any e, nth? acc e.on with
  | true, some q => addAll r acc (unite (e.on :: q) l)
  | _, _ => addAll r acc l
def meets : List Nat → List Nat → Bool
 | [], _ => false
 | k :: r, l => match memb l k with | true => true | false => meets r l
def inRow (d : Nat) : List Nat → Bool
 | [] => false
 | k :: r => match Nat.beq (k % 1000) (d % 1000) with | true => true | false => inRow d r
def Eff.wrs (e : Eff) : List Nat := keysOf e.wr ++ e.dead
def free2 (x y : Eff) (dx dy : Nat) : Bool :=
 match x.wrs, y.wrs with
 | [], [] => true
 | _, _ => match meets x.wrs (y.rd ++ y.wrs), meets y.wrs x.rd, inRow dy (keysOf x.wr), inRow dx (keysOf y.wr) with
  | false, false, false, false => true
  | _, _, _, _ => false
def ordTail (i d : Nat) (e : Eff) : List Oper → List Eff → List (List Nat) → Bool
 | o :: r, f :: q, b :: c => match memb b i with
  | true => ordTail i d e r q c
  | false => match free2 e f d (slot o.dst) with | true => ordTail i d e r q c | false => false
 | _, _, _ => true
def ordOK : Nat → List Oper → List Eff → List (List Nat) → Bool
 | i, o :: r, e :: q, _ :: c => match ordTail i (slot o.dst) e r q c with | true => ordOK (i + 1) r q c | false => false
 | _, _, _, _ => true
def St.setB (S : St) (c : Operand) (b : Bool) : St :=
 match c with
 | .tmp t => { S with tm := put S.tm t (.v (.bool b)) }
 | _ => S
def regVC (C : Ctx) (W : Way) (ops : List Oper) (draws : Bool) (S : St) (K : Ex → St → VC) : VC :=
 vcOps C W ops ops S [] [] (fun S' kn tr => match draws with
  | false => K .normal ((S'.know kn).only W.keep)
  | true => match ordOK 0 ops (tr.reverse) (befores ops []) with
   | true => K .normal ((S'.know kn).only W.keep)
   | false => .fail 10)
def vc (C : Ctx) (W : Way) : Code → List Nat → St → (Ex → St → VC) → VC
 | .skip, _, S, K => K .normal S
 | .region id ops draws, p, S, K => match memb W.cuts id with
  | true => .cut p S (fun S2 => regVC C W ops.toList draws S2 K)
  | false => regVC C W ops.toList draws S K
 | .seq a b, p, S, K => vc C W a (0 :: p) S (fun e S' => match e with | .normal => vc C W b (1 :: p) S' K | .exit j => K (.exit j) S' | .ret => K .ret S')
 | .cond c a b, p, S, K => match S.val C c with
  | some (.v (.bool x)) => match x with | true => vc C W a (0 :: p) S K | false => vc C W b (1 :: p) S K
  | some (.sb x) => .fork x (vc C W a (0 :: p) (S.setB c true) K) (vc C W b (1 :: p) (S.setB c false) K)
  | _ => .fail 8
 | .block id b, p, S, K => vc C W b (0 :: p) S (fun e S' => match e with
  | .exit j => (match Nat.beq j id with | true => K .normal S' | false => K (.exit j) S')
  | .normal => K .normal S'
  | .ret => K .ret S')
 | .exit id, _, S, K => K (.exit id) S
 | .ret, _, S, K => K .ret S
 | .loop b, p, S, K => .loop p b S K
 | .rangeFunc g ps a b, p, S, K => .rng p (.rangeFunc g ps a b) S K
 | _, _, _, _ => .fail 9
def sub? : Code → List Nat → Option Code
 | c, [] => some c
 | .seq a b, i :: p => match i with | 0 => sub? a p | _ => sub? b p
 | .cond _ a b, i :: p => match i with | 0 => sub? a p | _ => sub? b p
 | .block _ b, _ :: p => sub? b p
 | .loop b, _ :: p => sub? b p
 | .rangeFunc _ _ a b, i :: p => match i with | 0 => sub? a p | _ => sub? b p
 | _, _ => none
end Go.Bu
namespace Go.Bu
def nota : Value → Bool
 | .agg _ | .tuple _ => false
 | _ => true
def flat : Nat → (Nat → List Value) → List Value
 | 0, _ => []
 | n + 1, g => flat n g ++ g n
theorem flat_congr {n : Nat} {g h : Nat → List Value} (H : ∀ i, i < n → g i = h i) : flat n g = flat n h := by
 induction n with
 | zero => rfl
 | succ n ih => simp only [flat]; rw [ih fun i hi => H i (by omega), H n (by omega)]
theorem flat_split {n i : Nat} (hi : i < n) (g : Nat → List Value) : ∃ post, flat n g = flat i g ++ (g i ++ post) := by
 induction n with
 | zero => omega
 | succ n ih =>
  by_cases h : i = n
  ·subst h; exact ⟨[], by simp [flat]⟩
  ·obtain ⟨p, hp⟩ := ih (by omega)
   exact ⟨p ++ g n, by simp only [flat, hp, List.append_assoc]⟩
theorem flat_len {n e : Nat} {g : Nat → List Value} (h : ∀ i, i < n → (g i).length = e) : (flat n g).length = n * e := by
 induction n with
 | zero => simp [flat]
 | succ n ih => simp only [flat, List.length_append]; rw [ih fun i hi => h i (by omega), h n (by omega), Nat.succ_mul]
theorem flat_set {n i : Nat} (hi : i < n) (g : Nat → List Value) (us post : List Value) (hp : flat n g = flat i g ++ (g i ++ post)) (_hl : us.length = (g i).length) :
  flat n (fun j => if j = i then us else g j) = flat i g ++ (us ++ post) := by
 induction n generalizing post with
 | zero => omega
 | succ n ih =>
  by_cases h : i = n
  ·subst h
   simp only [flat, if_true] at *
   have hpost : post = [] := by simpa using hp
   subst hpost
   rw [flat_congr (h := g) fun j hj => by simp [Nat.ne_of_lt hj]]
   simp
  ·obtain ⟨p, hp'⟩ := flat_split (n := n) (i := i) (by omega) g
   have : post = p ++ g n := by
    simp only [flat, hp', List.append_assoc, List.append_cancel_left_eq] at hp
    exact hp.symm
   subst this
   simp only [flat]
   rw [ih (by omega) p hp', if_neg (Ne.symm h)]
   simp
structure Loc where
  b : Nat
  t : AV
abbrev Ren := Nat → Option Loc
def AV.off : AV → List Nat → Nat
 | _, [] => 0
 | .st fs, i :: p => AV.pre fs i + (match nth? fs i with | some y => y.off p | none => 0)
 | .arr _ e f, i :: p => i * e + (f i).off p
 | _, _ => 0
def AV.vp : AV → List Nat → Prop
 | _, [] => True
 | .st fs, i :: p => match nth? fs i with | some y => y.vp p | none => False
 | .arr n _ f, i :: p => i < n ∧ (f i).vp p
 | _, _ => False
def AV.row (t : AV) (p : List Nat) (e n : Nat) : Prop := ∀ i, i < n → t.vp (p ++ [i]) ∧ t.off (p ++ [i]) = t.off p + i * e
inductive Rep (w : World) (A : Nat → Prop) : Ren → AV → List Value → Prop
  | v {ρ x} : nota x = true → Rep w A ρ (.v x) [x]
  | sb {ρ b} : Rep w A ρ (.sb b) [.bool b]
  | st {ρ fs vs} (g : Nat → List Value) : (∀ i x, nth? fs i = some x → Rep w A ρ x (g i)) → vs = flat fs.length g → Rep w A ρ (.st fs) vs
  | arr {ρ n e f vs} (g : Nat → List Value) : (∀ i, i < n → (g i).length = e) → (∀ i, i < n → Rep w A (fun _ => none) (f i) (g i)) → vs = flat n g → Rep w A ρ (.arr n e f) vs
  | dat0 {ρ ex e f a c} : (ex = true → c = 0) → Rep w A ρ (.dat 0 ex e f) [.slice a 0 c]
  | dat {ρ n ex e f b o c} (g : Nat → List Value) : A b → n ≤ c → (ex = true → c = n) → (∀ i, i < n → (g i).length = e) →
      (∀ i j, i < n → j < e → w.cell? ⟨b, o + (i * e + j), none⟩ = (g i)[j]?) → (∀ i, i < n → Rep w A (fun _ => none) (f i) (g i)) →
      Rep w A ρ (.dat n ex e f) [.slice (some ⟨b, o, none⟩) n c]
  | pd {ρ x b o} (g : List Value) : A b → (∀ j, j < g.length → w.cell? ⟨b, o + j, none⟩ = g[j]?) → Rep w A (fun _ => none) x g → Rep w A ρ (.pd x) [.pointer (some ⟨b, o, none⟩)]
  | sl0 {ρ id p o ex e a} : Rep w A ρ (.sl id p o 0 0 ex e) [.slice a 0 0]
  | sl {ρ id p o n c ex e k rc} : ρ id = some k → n ≤ c → c ≤ rc → (ex = true → rc = c) → k.t.row p e (o + c) →
      (∃ cs el fz, w.heap[k.b]? = some (.cells cs el fz) ∧ k.t.off p + (o + rc) * e ≤ cs.size) →
      Rep w A ρ (.sl id p o n c ex e) [.slice (some ⟨k.b, k.t.off p + o * e, none⟩) n rc]
  | ptr {ρ id p k} : ρ id = some k → k.t.vp p → Rep w A ρ (.ptr id p) [.pointer (some ⟨k.b, k.t.off p, none⟩)]
  | mp {ρ id k} : ρ id = some k → Rep w A ρ (.mp id) [.map (some k.b)]
  | fn {ρ f fs} (vs : List Value) : vs.length = fs.length → (∀ i x, nth? fs i = some x → leaf x = true) → (∀ i x v, nth? fs i = some x → nth? vs i = some v → Rep w A ρ x [v]) → Rep w A ρ (.fn f fs) [.func f #[] vs.toArray]
  | ifc1 {ρ t x v} : leaf x = true → Rep w A ρ x [v] → Rep w A ρ (.ifc t x) [.iface t v]
  | ifcA {ρ t x} {vs : List Value} : leaf x = false → Rep w A ρ x vs → Rep w A ρ (.ifc t x) [.iface t (.agg vs.toArray)]
def RV (w : World) (A : Nat → Prop) (ρ : Ren) (x : AV) (v : Value) : Prop :=
 (leaf x = true ∧ Rep w A ρ x [v]) ∨ (leaf x = false ∧ ∃ vs : List Value, v = .agg vs.toArray ∧ Rep w A ρ x vs)
def RT (w : World) (A : Nat → Prop) (ρ : Ren) (x : AV) (v : Value) : Prop :=
 match x with
 | .tup xs => ∃ vs : List Value, v = .tuple vs.toArray ∧ vs.length = xs.length ∧ ∀ i y u, nth? xs i = some y → nth? vs i = some u → RV w A ρ y u
 | _ => RV w A ρ x v
theorem nth?_get {α : Type} : ∀ (l : List α) (i : Nat), nth? l i = l[i]?
 | [], i => by cases i <;> rfl
 | x :: r, 0 => rfl
 | x :: r, i + 1 => by simp only [nth?, List.getElem?_cons_succ]; exact nth?_get r i
theorem pre_flat (fs : List AV) (g : Nat → List Value) : ∀ i, i ≤ fs.length → (∀ j x, nth? fs j = some x → (g j).length = x.size) → (flat i g).length = AV.pre fs i := by
 induction fs generalizing g with
 | nil => intro i hi _; simp at hi; subst hi; rfl
 | cons x r ih =>
  intro i hi h
  cases i with
  | zero => rfl
  | succ i =>
   have h1 : flat (i + 1) g = g 0 ++ flat i (fun j => g (j + 1)) := by
    clear hi h
    induction i with
    | zero => simp [flat]
    | succ i ih => rw [flat, ih]; simp [flat]
   rw [h1, List.length_append, AV.pre, h 0 x rfl, ih (fun j => g (j + 1)) i (by simpa using hi) fun j y hy => h (j + 1) y hy]
theorem sizes_pre (fs : List AV) : AV.size.sizes fs = AV.pre fs fs.length := by
 induction fs with
 | nil => rfl
 | cons x r ih => simp only [AV.size.sizes, List.length_cons, AV.pre, ih]
theorem Rep.len {w : World} {A : Nat → Prop} {ρ : Ren} {x : AV} {vs : List Value} (h : Rep w A ρ x vs) : vs.length = x.size := by
 induction h with
 | st g h e ih => subst e; rw [AV.size, sizes_pre]; exact pre_flat _ _ _ (Nat.le_refl _) ih
 | arr g hl h e ih => subst e; rw [AV.size]; exact flat_len hl
 | _ => rfl
structure Keeps (w : World) (A : Nat → Prop) (ρ : Ren) (w' : World) (A' : Nat → Prop) (ρ' : Ren) : Prop where
  blk : ∀ b, A b → A' b ∧ w'.heap[b]? = w.heap[b]?
  ren : ∀ id k, ρ id = some k → ρ' id = some k
  cells : ∀ (b : Nat) (c : Array Value) (e : TypeId) (fz : Nat × Nat), w.heap[b]? = some (Obj.cells c e fz) → ∃ (c' : Array Value) (fz' : Nat × Nat), w'.heap[b]? = some (Obj.cells c' e fz') ∧ c'.size = c.size
theorem Keeps.none {w w' : World} {A A' : Nat → Prop} {ρ ρ' : Ren} (k : Keeps w A ρ w' A' ρ') : Keeps w A (fun _ => Option.none) w' A' (fun _ => Option.none) := ⟨k.blk, (fun _ _ h => by cases h), k.cells⟩
theorem cell_of_blk {w w' : World} {b : Nat} (h : w'.heap[b]? = w.heap[b]?) (o : Nat) : w'.cell? ⟨b, o, none⟩ = w.cell? ⟨b, o, none⟩ := by
 simp only [World.cell?, h]
theorem Rep.keep {w w' : World} {A A' : Nat → Prop} {ρ : Ren} {x : AV} {vs : List Value} (h : Rep w A ρ x vs) :
  ∀ {ρ' : Ren}, Keeps w A ρ w' A' ρ' → Rep w' A' ρ' x vs := by
 induction h with
 | v h => exact fun _ => .v h
 | sb => exact fun _ => .sb
 | st g h e ih => exact fun k => .st g (fun i x hx => ih i x hx k) e
 | arr g hl h e ih => exact fun k => .arr g hl (fun i hi => ih i hi k.none) e
 | dat0 h => exact fun _ => .dat0 h
 | dat g ha hc hex hl hm h ih =>
  exact fun k => .dat g (k.blk _ ha).1 hc hex hl (fun i j hi hj => by rw [cell_of_blk (k.blk _ ha).2]; exact hm i j hi hj)
   (fun i hi => ih i hi k.none)
 | pd g ha hm h ih => exact fun k => .pd g (k.blk _ ha).1 (fun j hj => by rw [cell_of_blk (k.blk _ ha).2]; exact hm j hj) (ih k.none)
 | sl0 => exact fun _ => .sl0
 | sl hr h1 h2 h3 h4 h5 =>
  intro ρ' k
  obtain ⟨cs, el, fz, hh, hb⟩ := h5
  obtain ⟨c', fz', hh', hs⟩ := k.cells _ _ _ _ hh
  exact .sl (k.ren _ _ hr) h1 h2 h3 h4 ⟨c', el, fz', hh', by omega⟩
 | ptr hr hv => exact fun k => .ptr (k.ren _ _ hr) hv
 | mp hr => exact fun k => .mp (k.ren _ _ hr)
 | fn vs hl hf h ih => exact fun k => .fn vs hl hf fun i x v hx hv => ih i x v hx hv k
 | ifc1 hl h ih => exact fun k => .ifc1 hl (ih k)
 | ifcA hl h ih => exact fun k => .ifcA hl (ih k)
theorem RV.keep {w w' : World} {A A' : Nat → Prop} {ρ ρ' : Ren} {x : AV} {v : Value} (h : RV w A ρ x v) (k : Keeps w A ρ w' A' ρ') : RV w' A' ρ' x v := by
 rcases h with ⟨hl, h⟩ | ⟨hl, vs, e, h⟩
 ·exact .inl ⟨hl, h.keep k⟩
 ·exact .inr ⟨hl, vs, e, h.keep k⟩
theorem RT.keep {w w' : World} {A A' : Nat → Prop} {ρ ρ' : Ren} {x : AV} {v : Value} (h : RT w A ρ x v) (k : Keeps w A ρ w' A' ρ') : RT w' A' ρ' x v := by
 unfold RT at *
 split at h
 ·obtain ⟨vs, e, hl, h⟩ := h
  exact ⟨vs, e, hl, fun i y u hy hu => (h i y u hy hu).keep k⟩
 ·exact RV.keep h k
theorem Rep.noid {w : World} {A : Nat → Prop} {ρ : Ren} {x : AV} {vs : List Value} (h : Rep w A ρ x vs) : x.noid = true → ∀ ρ', Rep w A ρ' x vs := by
 have many : ∀ (fs : List AV), AV.noid.noids fs = true → ∀ i x, nth? fs i = some x → x.noid = true := by
  intro fs
  induction fs with
  | nil => intro _ i x hx; cases i <;> cases hx
  | cons y r ih =>
   intro hn i x hx
   simp only [AV.noid.noids] at hn
   split at hn
   ·cases i with
    | zero => simp only [nth?] at hx; cases hx; assumption
    | succ i => exact ih hn i x hx
   ·cases hn
 induction h with
 | v h => exact fun _ _ => .v h
 | sb => exact fun _ _ => .sb
 | st g h e ih => exact fun hn ρ' => .st g (fun i x hx => ih i x hx (many _ (by simpa [AV.noid] using hn) i x hx) ρ') e
 | arr g hl h e ih => exact fun _ _ => .arr g hl h e
 | dat0 h => exact fun _ _ => .dat0 h
 | dat g ha hc hex hl hm h ih => exact fun _ _ => .dat g ha hc hex hl hm h
 | pd g ha hm h ih => exact fun _ _ => .pd g ha hm h
 | sl0 => intro hn; cases hn
 | sl hr h1 h2 h3 h4 h5 => intro hn; cases hn
 | ptr hr hv => intro hn; cases hn
 | mp hr => intro hn; cases hn
 | fn vs hl hf h ih => exact fun hn ρ' => .fn vs hl hf fun i x v hx hv => ih i x v hx hv (many _ (by simpa [AV.noid] using hn) i x hx) ρ'
 | ifc1 hl h ih => exact fun hn ρ' => .ifc1 hl (ih (by simpa [AV.noid] using hn) ρ')
 | ifcA hl h ih => exact fun hn ρ' => .ifcA hl (ih (by simpa [AV.noid] using hn) ρ')
end Go.Bu
namespace Go.Bu
theorem beq_iff {a b : Nat} : Nat.beq a b = true ↔ a = b := ⟨Nat.eq_of_beq_eq_true, fun h => by subst h; exact Nat.beq_refl a⟩
theorem beq_false {a b : Nat} (h : a ≠ b) : Nat.beq a b = false := by
 cases e : Nat.beq a b with
 | true => exact absurd (beq_iff.1 e) h
 | false => rfl
theorem look_put {α : Type} (l : List (Nat × α)) (n m : Nat) (x : α) : look (put l n x) m = if n = m then some x else look l m := by
 induction l with
 | nil =>
  by_cases h : n = m
  ·simp [put, look, h, Nat.beq_refl]
  ·simp [put, look, h, beq_false h]
 | cons y r ih =>
  obtain ⟨k, y⟩ := y
  simp only [put]
  cases hkn : Nat.beq k n with
  | true =>
   obtain rfl := beq_iff.1 hkn
   by_cases h : k = m
   ·simp [look, h, Nat.beq_refl]
   ·simp [look, h, beq_false h]
  | false =>
   cases Nat.ble n k with
   | true =>
    by_cases h : n = m
    ·simp [look, h, Nat.beq_refl]
    ·simp [look, h, beq_false h]
   | false =>
    simp only [look, ih]
    by_cases h : k = m
    ·subst h
     have : n ≠ k := fun e => by subst e; simp [Nat.beq_refl] at hkn
     simp [Nat.beq_refl, this]
    ·simp [beq_false h]
theorem memb_iff {l : List Nat} {n : Nat} : memb l n = true ↔ n ∈ l := by
 induction l with
 | nil => simp [memb]
 | cons k r ih =>
  simp only [memb, List.mem_cons]
  cases h : Nat.beq k n with
  | true => simp [beq_iff.1 h]
  | false => simp [ih, show n ≠ k from fun e => by subst e; simp [Nat.beq_refl] at h]
theorem look_keepOnly {α : Type} (l : List (Nat × α)) (ks : List Nat) (m : Nat) : look (keepOnly l ks) m = if memb ks m = true then look l m else none := by
 induction l with
 | nil => simp [keepOnly, look]
 | cons y r ih =>
  obtain ⟨k, y⟩ := y
  simp only [keepOnly]
  cases hk : memb ks k with
  | true =>
   simp only [look, ih]
   by_cases h : k = m
   ·subst h; simp [hk, Nat.beq_refl]
   ·simp [beq_false h]
  | false =>
   simp only [look, ih]
   by_cases h : k = m
   ·subst h; simp [hk]
   ·simp [beq_false h]
theorem look_dropAll {α : Type} (l : List (Nat × α)) (ks : List Nat) (m : Nat) : look (dropAll l ks) m = if memb ks m = true then none else look l m := by
 induction l with
 | nil => simp [dropAll, look]
 | cons y r ih =>
  obtain ⟨k, y⟩ := y
  simp only [dropAll]
  cases hk : memb ks k with
  | true =>
   simp only [look, ih]
   by_cases h : k = m
   ·subst h; simp [hk]
   ·simp [beq_false h]
  | false =>
   simp only [look, ih]
   by_cases h : k = m
   ·subst h; simp [hk, Nat.beq_refl]
   ·simp [beq_false h]
structure SameShape (x y : AV) : Prop where
  size : x.size = y.size
  leaf : leaf x = leaf y
  vp : ∀ p, x.vp p ↔ y.vp p
  off : ∀ p, x.vp p → x.off p = y.off p
theorem SameShape.refl (x : AV) : SameShape x x := ⟨rfl, rfl, fun _ => Iff.rfl, fun _ _ => rfl⟩
theorem SameShape.symm {x y : AV} (h : SameShape x y) : SameShape y x := ⟨h.size.symm, h.leaf.symm, fun p => (h.vp p).symm, fun p hp => (h.off p ((h.vp p).2 hp)).symm⟩
theorem SameShape.trans {x y z : AV} (h : SameShape x y) (k : SameShape y z) : SameShape x z :=
 ⟨h.size.trans k.size, h.leaf.trans k.leaf, fun p => (h.vp p).trans (k.vp p), fun p hp => (h.off p hp).trans (k.off p ((h.vp p).1 hp))⟩
theorem vp_leaf {x : AV} (h : leaf x = true) (p : List Nat) : x.vp p ↔ p = [] := by
 cases p with
 | nil => cases x <;> simp [AV.vp]
 | cons i p => cases x <;> simp_all [AV.vp, leaf]
theorem size_leaf {x : AV} (h : leaf x = true) : x.size = 1 := by cases x <;> simp_all [AV.size, leaf]
theorem SameShape.of_leaf {x y : AV} (hx : Bu.leaf x = true) (hy : Bu.leaf y = true) : SameShape x y :=
 ⟨by rw [size_leaf hx, size_leaf hy], by rw [hx, hy], fun p => by rw [vp_leaf hx, vp_leaf hy], fun p hp => by
  obtain rfl := (vp_leaf hx p).1 hp
  cases x <;> cases y <;> rfl⟩
def BlkRel (w : World) (A : Nat → Prop) (ρ : Ren) (b : Nat) : Blk → Prop
 | .c t => ∃ (cs : Array Value) (el : TypeId) (fz : Nat × Nat) (vs rest : List Value), w.heap[b]? = some (.cells cs el fz) ∧ (fz.1 = fz.2 ∨ (cs.size ≤ fz.1 ∧ row1 t = true)) ∧ cs.toList = vs ++ rest ∧ Rep w A ρ t vs ∧ ∀ x, x ∈ rest → nota x = true
 | .m _ _ => False
structure HeapRel (w : World) (A : Nat → Prop) (ρ : Ren) (H : List (Nat × Blk)) : Prop where
  blk : ∀ id k, look H id = some k → (∃ l, ρ id = some l ∧ BlkRel w A ρ l.b k ∧ ∀ t, k = .c t → SameShape l.t t) ∨ (ρ id = none ∧ ∃ e f, k = .c (.arr 0 e f))
  inj : ∀ id id' l l', look H id ≠ none → look H id' ≠ none → ρ id = some l → ρ id' = some l' → l.b = l'.b → id = id'
  apart : ∀ id l, look H id ≠ none → ρ id = some l → ¬ A l.b
def own (ρ : Ren) (H : List (Nat × Blk)) (b : Nat) : Prop := ∃ id l, look H id ≠ none ∧ ρ id = some l ∧ l.b = b
structure Evo (w : World) (A O : Nat → Prop) (w' : World) (A' O' : Nat → Prop) : Prop where
  size : w.heap.size ≤ w'.heap.size
  os : w'.os = w.os
  tape : w'.tape = w.tape
  output : w'.output = w.output
  keep : ∀ b, b < w.heap.size → ¬ O b → w'.heap[b]? = w.heap[b]?
  cells : ∀ (b : Nat) (c : Array Value) (e : TypeId) (fz : Nat × Nat), w.heap[b]? = some (Obj.cells c e fz) → ∃ (c' : Array Value) (fz' : Nat × Nat), w'.heap[b]? = some (Obj.cells c' e fz') ∧ c'.size = c.size
  stay : ∀ b, A b → A' b
  Anew : ∀ b, A' b → A b ∨ O b ∨ w.heap.size ≤ b
  Onew : ∀ b, O' b → O b ∨ w.heap.size ≤ b
theorem Evo.refl (w : World) (A O : Nat → Prop) : Evo w A O w A O :=
 ⟨Nat.le_refl _, rfl, rfl, rfl, fun _ _ _ => rfl, fun _ c _ fz h => ⟨c, fz, h, rfl⟩, fun _ h => h, fun _ h => .inl h, fun _ h => .inl h⟩
theorem Evo.trans {w w' w'' : World} {A O A' O' A'' O'' : Nat → Prop} (h : Evo w A O w' A' O') (k : Evo w' A' O' w'' A'' O'') : Evo w A O w'' A'' O'' where
 size := Nat.le_trans h.size k.size
 os := k.os.trans h.os
 tape := k.tape.trans h.tape
 output := k.output.trans h.output
 keep b hb hO := (k.keep b (Nat.lt_of_lt_of_le hb h.size) fun hO' => (h.Onew b hO').elim hO (fun h => by omega)).trans (h.keep b hb hO)
 cells b c e fz hc := by
  obtain ⟨c', fz', h1, h2⟩ := h.cells b c e fz hc
  obtain ⟨c'', fz'', h3, h4⟩ := k.cells b c' e fz' h1
  exact ⟨c'', fz'', h3, h4.trans h2⟩
 stay b hb := k.stay b (h.stay b hb)
 Anew b hb := by
  rcases k.Anew b hb with h1 | h1 | h1
  ·exact h.Anew b h1
  ·rcases h.Onew b h1 with h2 | h2
   ·exact .inr (.inl h2)
   ·exact .inr (.inr h2)
  ·exact .inr (.inr (Nat.le_trans h.size h1))
 Onew b hb := by
  rcases k.Onew b hb with h1 | h1
  ·exact h.Onew b h1
  ·exact .inr (Nat.le_trans h.size h1)
structure Dom where
  base : Nat
  round : Option Nat := none
  ext : Ren → (Nat → Prop) → World → Prop := fun _ _ _ => True
  stab : ∀ {ρ A w ρ' A' w'}, ext ρ A w → Keeps w A ρ w' A' ρ' → ext ρ' A' w' := by exact fun _ _ => trivial
  rc : Option (Nat × Loop) := none
structure MarksOK (D : Dom) (ρ : Ren) (A : Nat → Prop) (w : World) (l : List Deferred) : Prop where
  each : ∀ d, d ∈ l → ∃ r, d.target = .collected r ∧ D.base ≤ r ∧ ¬ A r ∧ w.heap[r]? = some (.deferred (some []))
  diff : l.Pairwise fun d d' => d.target ≠ d'.target
  ex : D.ext ρ A w
  rc : ∀ i r, D.rc = some (i, r) → ¬ A i ∧ w.heap[i]? = some (.loop r)
  bs : D.base ≤ w.heap.size
theorem MarksOK.nil {D : Dom} {ρ : Ren} {A : Nat → Prop} {w : World} (he : D.ext ρ A w) (hr : D.rc = none) (hb : D.base ≤ w.heap.size) : MarksOK D ρ A w [] :=
 ⟨fun d h => (by cases h), .nil, he, fun i r h => (by rw [hr] at h; cases h), hb⟩
theorem HeapRel.own_cells {w : World} {A : Nat → Prop} {ρ : Ren} {H : List (Nat × Blk)} (h : HeapRel w A ρ H) {b : Nat} (hb : own ρ H b) : ∃ c e fz, w.heap[b]? = some (.cells c e fz) := by
 obtain ⟨id, l, h1, h2, rfl⟩ := hb
 cases hk : look H id with
 | none => exact absurd hk h1
 | some k =>
  rcases h.blk id k hk with ⟨l', g1, g2, _⟩ | ⟨g1, _⟩
  ·rw [h2] at g1; cases g1
   cases k with
   | m => exact g2.elim
   | c t => obtain ⟨cs, el, fz, _, _, e, _⟩ := g2; exact ⟨cs, el, fz, e⟩
  ·rw [h2] at g1; cases g1
theorem MarksOK.evo {D : Dom} {ρ ρ' : Ren} {w w' : World} {A A' O O' : Nat → Prop} {l : List Deferred} (h : MarksOK D ρ A w l) (kp : Keeps w A ρ w' A' ρ') (e : Evo w A O w' A' O') (hO : ∀ b, O b → ∃ c e fz, w.heap[b]? = some (.cells c e fz)) : MarksOK D ρ' A' w' l := by
 have key : ∀ (r : Nat) (o : Obj), w.heap[r]? = some o → (∀ c e fz, o ≠ .cells c e fz) → ¬ A r → ¬ A' r ∧ w'.heap[r]? = some o := fun r o h4 ho h3 => by
  have hlt : r < w.heap.size := (Array.getElem?_eq_some_iff.1 h4).1
  have hno : ¬ O r := fun hr => by
   obtain ⟨c, t, fz, g⟩ := hO r hr
   rw [h4] at g; cases g; exact ho _ _ _ rfl
  refine ⟨fun ha => ?_, by rw [e.keep r hlt hno]; exact h4⟩
  rcases e.Anew r ha with g | g | g
  ·exact h3 g
  ·exact hno g
  ·omega
 refine ⟨fun d hd => ?_, h.diff, D.stab h.ex kp, fun i r hr => ?_, Nat.le_trans h.bs e.size⟩
 ·obtain ⟨r, h1, h2, h3, h4⟩ := h.each d hd
  obtain ⟨g1, g2⟩ := key r _ h4 (fun _ _ _ e => by cases e) h3
  exact ⟨r, h1, h2, g1, g2⟩
 ·obtain ⟨g1, g2⟩ := h.rc i r hr
  exact key i _ g2 (fun _ _ _ e => by cases e) g1
structure Rel (C : Ctx) (N : Nat) (D : Dom) (S : St) (ρ : Ren) (A : Nat → Prop) (a : Act) (w : World) : Prop where
  tm : ∀ t x, look S.tm t = some x → ∃ v, a.tmps[t]? = some v ∧ RT w A ρ x v
  nt : a.tmps.size = N
  df : MarksOK D ρ A w a.defers
  hp : HeapRel w A ρ S.hp
  Ab : ∀ b, A b → b < w.heap.size
  rb : ∀ id l, ρ id = some l → l.b < w.heap.size ∧ memb S.seen id = true
  sn : ∀ id, look S.hp id ≠ none → memb S.seen id = true
  gl : ∀ g x, C.gl g = some x → RV w A ρ (.pd x) (.pointer (some ⟨g, 0, none⟩))
theorem Keeps.of_evo {w w' : World} {A A' O O' : Nat → Prop} {ρ ρ' : Ren} (h : Evo w A O w' A' O') (hA : ∀ b, A b → b < w.heap.size) (hap : ∀ b, A b → ¬ O b)
  (hr : ∀ id k, ρ id = some k → ρ' id = some k) : Keeps w A ρ w' A' ρ' :=
 ⟨fun b hb => ⟨h.stay b hb, h.keep b (hA b hb) (hap b hb)⟩, hr, h.cells⟩
theorem HeapRel.not_own {w : World} {A : Nat → Prop} {ρ : Ren} {H : List (Nat × Blk)} (h : HeapRel w A ρ H) (b : Nat) (hA : A b) : ¬ own ρ H b := by
 rintro ⟨id, l, hl, hr, rfl⟩
 exact h.apart id l hl hr hA
theorem Rel.put {C : Ctx} {N : Nat} {D : Dom} {S : St} {ρ : Ren} {A : Nat → Prop} {a : Act} {w : World} (h : Rel C N D S ρ A a w) (dst : Option Nat) (hd : ∀ d, dst = some d → d < N) {x : AV} {v : Value} (hv : RT w A ρ x v) :
  Rel C N D { S with tm := withTm S dst x } ρ A (a.put dst v) w := by
 cases dst with
 | none => exact ⟨h.tm, h.nt, h.df, h.hp, h.Ab, h.rb, h.sn, h.gl⟩
 | some d =>
  refine ⟨fun t y hy => ?_, by simp [Act.put, h.nt], h.df, h.hp, h.Ab, h.rb, h.sn, h.gl⟩
  simp only [withTm, look_put] at hy
  split at hy
  ·rename_i e
   subst e
   cases hy
   exact ⟨v, by simp [Act.put, h.nt, hd d rfl], hv⟩
  ·rename_i e
   obtain ⟨u, hu, hr⟩ := h.tm t y hy
   exact ⟨u, by simp [Act.put, Array.getElem?_setIfInBounds_ne e, hu], hr⟩
theorem rt_undef (w : World) (A : Nat → Prop) (ρ : Ren) : RT w A ρ (.tup []) undef := ⟨[], rfl, rfl, fun i y u h => by cases i <;> cases h⟩
theorem Rel.fewer {C : Ctx} {N : Nat} {D : Dom} {S : St} {ρ : Ren} {A : Nat → Prop} {a : Act} {w : World} (h : Rel C N D S ρ A a w) (tm' : List (Nat × AV)) (hs : ∀ t x, look tm' t = some x → look S.tm t = some x) :
  Rel C N D { S with tm := tm' } ρ A a w := ⟨fun t x hx => h.tm t x (hs t x hx), h.nt, h.df, h.hp, h.Ab, h.rb, h.sn, h.gl⟩
theorem Rel.only {C : Ctx} {N : Nat} {D : Dom} {S : St} {ρ : Ren} {A : Nat → Prop} {a : Act} {w : World} (h : Rel C N D S ρ A a w) (l : List Nat) : Rel C N D (S.only l) ρ A a w :=
 h.fewer _ fun t x hx => by rw [look_keepOnly] at hx; split at hx <;> simp_all
theorem Rel.known {C : Ctx} {N : Nat} {D : Dom} {S : St} {ρ : Ren} {A : Nat → Prop} {a : Act} {w : World} (h : Rel C N D S ρ A a w) {t : Nat} {b : Bool} (hb : look S.tm t = some (.sb b)) :
  Rel C N D { S with tm := Bu.put S.tm t (.v (.bool b)) } ρ A a w := by
 refine ⟨fun s x hx => ?_, h.nt, h.df, h.hp, h.Ab, h.rb, h.sn, h.gl⟩
 simp only [look_put] at hx
 split at hx
 ·rename_i e
  subst e
  cases hx
  obtain ⟨v, hv, hr⟩ := h.tm t _ hb
  refine ⟨v, hv, ?_⟩
  rcases hr with ⟨_, hr⟩ | ⟨hl, _⟩
  ·cases hr; exact .inl ⟨rfl, .v rfl⟩
  ·cases hl
 ·exact h.tm s x hx
end Go.Bu
namespace Go.Bu
theorem Rep.lift {w : World} {A : Nat → Prop} {x : AV} {vs : List Value} (h : Rep w A (fun _ => none) x vs) (ρ : Ren) : Rep w A ρ x vs :=
 h.keep ⟨fun _ hb => ⟨hb, rfl⟩, (fun _ _ h => by cases h), fun _ c _ fz h => ⟨c, fz, h, rfl⟩⟩
theorem Rep.part {w : World} {A : Nat → Prop} {ρ : Ren} : ∀ (p : List Nat) {t x : AV} {vs : List Value}, Rep w A ρ t vs → t.vp p → t.sub p = some x →
  ∃ pre us post, vs = pre ++ (us ++ post) ∧ pre.length = t.off p ∧ Rep w A ρ x us
 | [], t, x, vs, h, _, hs => by
  have e : t = x := by cases t <;> simpa [AV.sub] using hs
  subst e
  exact ⟨[], vs, [], by simp, by cases t <;> rfl, h⟩
 | i :: p, t, x, vs, h, hv, hs => by
  cases h with
  | st g hg e =>
   rename_i fs
   simp only [AV.sub] at hs
   simp only [AV.vp] at hv
   cases hy : nth? fs i with
   | none => rw [hy] at hs; cases hs
   | some y =>
    simp only [hy] at hs hv
    have hi : i < fs.length := by
     rw [nth?_get] at hy; exact (List.getElem?_eq_some_iff.1 hy).1
    obtain ⟨pre, us, post, e1, e2, hx⟩ := Rep.part p (hg i y hy) hv hs
    obtain ⟨post', e3⟩ := flat_split hi g
    refine ⟨flat i g ++ pre, us, post ++ post', ?_, ?_, hx⟩
    ·rw [e, e3, e1]; simp
    ·rw [List.length_append, e2, AV.off, hy, pre_flat fs g i (Nat.le_of_lt hi) fun j z hz => (hg j z hz).len]
  | arr g hl hg e =>
   rename_i n e0 f
   simp only [AV.sub] at hs
   simp only [AV.vp] at hv
   obtain ⟨pre, us, post, e1, e2, hx⟩ := Rep.part p ((hg i hv.1).lift ρ) hv.2 hs
   obtain ⟨post', e3⟩ := flat_split hv.1 g
   refine ⟨flat i g ++ pre, us, post ++ post', ?_, ?_, hx⟩
   ·rw [e, e3, e1]; simp
   ·rw [List.length_append, e2, AV.off, flat_len (e := e0) fun j hj => hl j (by omega)]
  | _ => simp [AV.vp] at hv
theorem setAt_len {α : Type} : ∀ (l : List α) (i : Nat) (y : α), (setAt l i y).length = l.length
 | [], _, _ => rfl
 | _ :: _, 0, _ => rfl
 | _ :: r, i + 1, y => by simp [setAt, setAt_len r i y]
theorem nth?_setAt {α : Type} : ∀ (l : List α) (i j : Nat) (y : α), nth? (setAt l i y) j = if i = j ∧ j < l.length then Option.some y else nth? l j
 | [], i, j, y => by cases j <;> simp [setAt, nth?]
 | x :: r, 0, 0, y => by simp [setAt, nth?]
 | x :: r, 0, j + 1, y => by simp [setAt, nth?]
 | x :: r, i + 1, 0, y => by simp [setAt, nth?]
 | x :: r, i + 1, j + 1, y => by simp only [setAt, nth?, nth?_setAt r i j y, List.length_cons]; simp
theorem nth?_lt {α : Type} {l : List α} {i : Nat} {x : α} (h : nth? l i = some x) : i < l.length := by
 rw [nth?_get] at h; exact (List.getElem?_eq_some_iff.1 h).1
theorem nth?_some {α : Type} {l : List α} {i : Nat} (h : i < l.length) : ∃ x, nth? l i = some x := by
 rw [nth?_get]; exact ⟨_, List.getElem?_eq_getElem h⟩
theorem pre_setAt (fs : List AV) : ∀ (i j : Nat) (y z : AV), nth? fs i = some y → y.size = z.size → AV.pre (setAt fs i z) j = AV.pre fs j := by
 induction fs with
 | nil => intro i j y z h; cases i <;> cases h
 | cons x r ih =>
  intro i j y z h hs
  cases i with
  | zero =>
   simp only [nth?] at h; cases h
   cases j with
   | zero => simp [setAt, AV.pre]
   | succ j => simp only [setAt, AV.pre]; rw [hs]
  | succ i =>
   cases j with
   | zero => simp [setAt, AV.pre]
   | succ j => simp only [setAt, AV.pre]; rw [ih i j y z h hs]
theorem shape_st {fs : List AV} {i : Nat} {y z : AV} (h : nth? fs i = some y) (hs : SameShape y z) : SameShape (.st fs) (.st (setAt fs i z)) where
 size := by simp only [AV.size, sizes_pre, setAt_len]; rw [pre_setAt fs i _ y z h hs.size]
 leaf := rfl
 vp p := by
  cases p with
  | nil => simp [AV.vp]
  | cons j p =>
   simp only [AV.vp, nth?_setAt]
   by_cases e : i = j
   ·subst e; simp [nth?_lt h, h, hs.vp p]
   ·simp [e]
 off p hp := by
  cases p with
  | nil => rfl
  | cons j p =>
   simp only [AV.vp] at hp
   simp only [AV.off, nth?_setAt, pre_setAt fs i j y z h hs.size]
   by_cases e : i = j
   ·subst e; simp only [h] at hp; simp [nth?_lt h, h, hs.off p hp]
   ·simp [e]
theorem shape_arr {n e i : Nat} {f : Nat → AV} {z : AV} (hs : SameShape (f i) z) : SameShape (.arr n e f) (.arr n e (fun j => if j = i then z else f j)) where
 size := rfl
 leaf := rfl
 vp p := by
  cases p with
  | nil => simp [AV.vp]
  | cons j p =>
   simp only [AV.vp]
   by_cases h : j = i
   ·subst h; simp [hs.vp p]
   ·simp [h]
 off p hp := by
  cases p with
  | nil => rfl
  | cons j p =>
   simp only [AV.vp] at hp
   simp only [AV.off]
   by_cases h : j = i
   ·subst h; simp [hs.off p hp.2]
   ·simp [h]
theorem Rep.set {w : World} {A : Nat → Prop} {ρ : Ren} {z : AV} {us' : List Value} (hz : Rep w A ρ z us') : ∀ (p : List Nat) {t t' y : AV} {vs : List Value}, Rep w A ρ t vs → t.vp p → t.sub p = some y → t.upd p z = some t' → SameShape y z →
  ∃ pre us post, vs = pre ++ (us ++ post) ∧ pre.length = t.off p ∧ us.length = us'.length ∧ Rep w A ρ t' (pre ++ (us' ++ post)) ∧ SameShape t t'
 | [], t, t', y, vs, h, _, hs, hu, hsh => by
  have e : t = y := by cases t <;> simpa [AV.sub] using hs
  have e' : z = t' := by cases t <;> simpa [AV.upd] using hu
  subst e; subst e'
  exact ⟨[], vs, [], by simp, by cases t <;> rfl, by rw [h.len, hz.len, hsh.size], by simpa using hz, hsh⟩
 | i :: p, t, t', y, vs, h, hv, hs, hu, hsh => by
  cases h with
  | st g hg e =>
   rename_i fs
   simp only [AV.sub] at hs
   simp only [AV.vp] at hv
   simp only [AV.upd] at hu
   cases hx : nth? fs i with
   | none => rw [hx] at hs; cases hs
   | some x =>
    simp only [hx] at hs hv hu
    cases hxu : x.upd p z with
    | none => rw [hxu] at hu; cases hu
    | some x' =>
     simp only [hxu, Option.some.injEq] at hu
     subst hu
     have hi := nth?_lt hx
     obtain ⟨pre, us, post, e1, e2, e4, hx', hs'⟩ := Rep.set hz p (hg i x hx) hv hs hxu hsh
     obtain ⟨post', e3⟩ := flat_split hi g
     refine ⟨flat i g ++ pre, us, post ++ post', ?_, ?_, e4, ?_, shape_st hx hs'⟩
     ·rw [e, e3, e1]; simp
     ·rw [List.length_append, e2, AV.off, hx, pre_flat fs g i (Nat.le_of_lt hi) fun j z hz => (hg j z hz).len]
     ·refine .st (fun j => if j = i then pre ++ (us' ++ post) else g j) (fun j u hu => ?_) ?_
      ·rw [nth?_setAt] at hu
       by_cases ej : j = i
       ·subst ej; simp [hi] at hu; subst hu; simpa using hx'
       ·simp [Ne.symm ej] at hu; simpa [ej] using hg j u hu
      ·rw [setAt_len, flat_set hi g _ _ e3 (by rw [e1]; simp [e4])]; simp
  | arr g hl hg e =>
   rename_i n e0 f
   simp only [AV.sub] at hs
   simp only [AV.vp] at hv
   simp only [AV.upd] at hu
   cases hxu : (f i).upd p z with
   | none => simp only [hxu] at hu; cases hu
   | some x' =>
    cases hn : z.noid with
    | false => simp only [hxu, hn] at hu; cases hu
    | true =>
     simp only [hxu, hn, Option.some.injEq] at hu
     subst hu
     obtain ⟨pre, us, post, e1, e2, e4, hx', hs'⟩ := Rep.set (ρ := fun _ => none) (hz.noid hn _) p (hg i hv.1) hv.2 hs hxu hsh
     obtain ⟨post', e3⟩ := flat_split hv.1 g
     refine ⟨flat i g ++ pre, us, post ++ post', ?_, ?_, e4, ?_, shape_arr hs'⟩
     ·rw [e, e3, e1]; simp
     ·rw [List.length_append, e2, AV.off, flat_len (e := e0) fun j hj => hl j (by omega)]
     ·refine .arr (fun j => if j = i then pre ++ (us' ++ post) else g j) (fun j hj => ?_) (fun j hj => ?_) ?_
      ·by_cases ej : j = i
       ·subst ej; simp only [if_true]; rw [← hl j hj, e1]; simp [e4]
       ·simpa [ej] using hl j hj
      ·by_cases ej : j = i
       ·subst ej; simpa using hx'
       ·simpa [ej] using hg j hj
      ·rw [flat_set hv.1 g _ _ e3 (by rw [e1]; simp [e4])]; simp
  | _ => simp [AV.vp] at hv
end Go.Bu

