/- Copies of rows, and what is deleted from them. -/
import Derived.Test.YtjfggjlbnmdceaaK13
import Derived.Test.YtjfggjlbnmdceaaK10
namespace Go.Bu.W
def crCloneP : List AV → Option (AV × List (Nat × Blk))
  | [.dat n _ _ f] => some (.sl 0 [] 0 n n false 2, [(0, .c (.arr n 2 f))])
  | _ => none
def crCloneK : List AV → Option (AV × List (Nat × Blk))
  | [.dat n _ _ f] => some (.sl 0 [] 0 n n false 3, [(0, .c (.arr n 3 f))])
  | _ => none
/-- The row without its part i. -/
def delF (n i : Nat) (z : AV) (f : Nat → AV) (k : Nat) : AV := if k < i then f k else if k + 1 < n then f (k + 1) else z
def crDelK : List AV → List (Nat × Blk) → Option (AV × List (Nat × Blk))
  | [.sl _ _ _ n _ _ _, i, _], [(_, .c (.arr _ _ f))] => some (.sl 0 [] 0 (n - 1) n false 3, [(0, .c (.arr n 3 (delF n (asI i).toNat (pkA (0, 0, 0)) f)))])
  | _, _ => none
def crHeal1 : List AV → Option (AV × List (Nat × Blk))
  | [x, .pd a, .pd b] => some (.sb (decide (toP x = ofI (asI a) (asI b))), [])
  | _ => none
/-- Where the first pair is that is the other one. -/
def idxL (l : List PI) (x : PI) : Nat := (l.takeWhile fun y => decide (y ≠ x)).length
def crIdx : List AV → Option (AV × List (Nat × Blk))
  | [.dat n _ _ f, .fn _ [.pd a, .pd b]] => some (.i (if idxL (toPL n f) (ofI (asI a) (asI b)) < n then (idxL (toPL n f) (ofI (asI a) (asI b)) : Nat) else -1), [])
  | _ => none
def crN2 (g : Nat) (args : List AV) (H : List (Nat × Blk)) : Option (AV × List (Nat × Blk)) :=
  sel (Nat.beq g F_cloneP) (crCloneP args) <| sel (Nat.beq g F_cloneK) (crCloneK args) <| sel (Nat.beq g F_delK) (crDelK args H) <| sel (Nat.beq g F_heal1) (crHeal1 args) <| sel (Nat.beq g F_idxP) (crIdx args) <| crN g args H
def wayM (keep : List Nat) (nt : Nat) (cuts : List Nat) : Way := ⟨crN2, fun g => Nat.beq g F_delK, keep, [26], nt, cuts⟩
def w_cloneP : Way := wayM [0, 2, 4] 8 []
def w_cloneK : Way := wayM [0, 2, 4] 8 []
def w_delK : Way := wayM [0, 1, 2, 6, 7, 16] 33 []
def w_heal1 : Way := wayM [0, 1, 2, 3, 4] 10 []
def w_idxP : Way := wayM [0, 1, 4, 5, 7, 8, 9, 16] 19 []
def I_idx (ex : Bool) (l : List PI) (a b : Int) (i : Nat) : St := { tm := [(0, dP ex l), (1, .fn (.func 54) [.pd (.i a), .pd (.i b)]), (7, i64 l.length), (8, i64 i)], hp := [], seen := [] }

theorem cloneP_A (ex : Bool) (l : List PI) (K : Nat) (Φ : Ex → St → Prop) :
  (Holds C P 8 [] K Φ (vc C w_cloneP b_cloneP [] (start [dP ex l] []) lf)) =
  ((0 < (List.length l)) ∧
 ((0 = 0) ∧
 (((0 = 0) ∨ (0 < (List.length l))) ∧
 ((((0 + (List.length l)) * 16) ≤ 140737488355328) ∧
 (Φ Ex.ret (St.mk [(0, (W.dP ex l)), (2, (AV.sl 7 [] 0 (0 + (List.length l)) (0 + (List.length l)) false 2)), (4, (AV.v (Value.bool false)))] [(5, (Blk.c (AV.st []))), (7, (Blk.c (AV.arr (0 + (List.length l)) 2 (cat 0 (fun (i : Nat) => (AV.v (Value.tuple (List.toArray [])))) (fun (i : Nat) => (W.prA (W.pAt l i)))))))] [7, 5])))))) := by kernel_rfl
theorem cloneP_AN (c : Nat) (K : Nat) (Φ : Ex → St → Prop) :
  (Holds C P 8 [] K Φ (vc C w_cloneP b_cloneP [] (start [.v (.slice none 0 c)] []) lf)) =
  (Φ Ex.ret (St.mk [(0, (AV.v (Value.slice Option.none 0 c))), (2, (AV.dat 0 true 0 (fun (x : Nat) => (AV.v (Value.tuple (List.toArray [])))))), (4, (AV.v (Value.bool true)))] [] [])) := by kernel_rfl
theorem cloneP_AS (a : Addr) (c : Nat) (K : Nat) (Φ : Ex → St → Prop) :
  (Holds C P 8 [] K Φ (vc C w_cloneP b_cloneP [] (start [.v (.slice (some a) 0 c)] []) lf)) =
  ((0 = 0) ∧
 (((0 = 0) ∨ (0 < 0)) ∧
 ((0 ≤ 140737488355328) ∧
 (Φ Ex.ret (St.mk [(0, (AV.v (Value.slice (Option.some a) 0 c))), (2, (AV.sl 7 [] 0 0 0 false 2)), (4, (AV.v (Value.bool (Option.isNone (Option.some a)))))] [(5, (Blk.c (AV.st []))), (7, (Blk.c (AV.arr 0 2 (cat 0 (fun (i : Nat) => (AV.v (Value.tuple (List.toArray [])))) (fun (x : Nat) => (AV.v (Value.tuple (List.toArray []))))))))] [7, 5]))))) := by kernel_rfl
theorem cloneK_A (ex : Bool) (l : List Pk) (K : Nat) (Φ : Ex → St → Prop) :
  (Holds C P 8 [] K Φ (vc C w_cloneK b_cloneK [] (start [dK ex l] []) lf)) =
  ((0 < (List.length l)) ∧
 ((0 = 0) ∧
 (((0 = 0) ∨ (0 < (List.length l))) ∧
 ((((0 + (List.length l)) * 24) ≤ 140737488355328) ∧
 (Φ Ex.ret (St.mk [(0, (W.dK ex l)), (2, (AV.sl 7 [] 0 (0 + (List.length l)) (0 + (List.length l)) false 3)), (4, (AV.v (Value.bool false)))] [(5, (Blk.c (AV.st []))), (7, (Blk.c (AV.arr (0 + (List.length l)) 3 (cat 0 (fun (i : Nat) => (AV.v (Value.tuple (List.toArray [])))) (fun (i : Nat) => (W.pkA (W.kAt l i)))))))] [7, 5])))))) := by kernel_rfl
theorem cloneK_AN (c : Nat) (K : Nat) (Φ : Ex → St → Prop) :
  (Holds C P 8 [] K Φ (vc C w_cloneK b_cloneK [] (start [.v (.slice none 0 c)] []) lf)) =
  (Φ Ex.ret (St.mk [(0, (AV.v (Value.slice Option.none 0 c))), (2, (AV.dat 0 true 0 (fun (x : Nat) => (AV.v (Value.tuple (List.toArray [])))))), (4, (AV.v (Value.bool true)))] [] [])) := by kernel_rfl
theorem cloneK_AS (a : Addr) (c : Nat) (K : Nat) (Φ : Ex → St → Prop) :
  (Holds C P 8 [] K Φ (vc C w_cloneK b_cloneK [] (start [.v (.slice (some a) 0 c)] []) lf)) =
  ((0 = 0) ∧
 (((0 = 0) ∨ (0 < 0)) ∧
 ((0 ≤ 140737488355328) ∧
 (Φ Ex.ret (St.mk [(0, (AV.v (Value.slice (Option.some a) 0 c))), (2, (AV.sl 7 [] 0 0 0 false 3)), (4, (AV.v (Value.bool (Option.isNone (Option.some a)))))] [(5, (Blk.c (AV.st []))), (7, (Blk.c (AV.arr 0 3 (cat 0 (fun (i : Nat) => (AV.v (Value.tuple (List.toArray [])))) (fun (x : Nat) => (AV.v (Value.tuple (List.toArray []))))))))] [7, 5]))))) := by kernel_rfl
theorem delK_A (l : List Pk) (i : Nat) (K : Nat) (Φ : Ex → St → Prop) :
  (Holds C P 33 [] K Φ (vc C w_delK b_delK [] (start [.sl 0 [] 0 l.length l.length false 3, i64 i, i64 (i + 1)] [(0, .c (.arr l.length 3 (fun j => pkA (kAt l j))))]) lf)) =
  ((((0 : Int) ≤ ((i : Nat) : Int)) ∧ ((((i : Nat) : Int) ≤ (((i + 1) : Nat) : Int)) ∧ (((((i + 1) : Nat) : Int) ≤ (((List.length l) : Nat) : Int)) ∧ ((((List.length l) : Nat) : Int) ≤ (((List.length l) : Nat) : Int))))) ∧
 (((((i : Nat) : Int) == (((i + 1) : Nat) : Int)) = true →
 (Φ Ex.ret (St.mk [(0, (AV.sl 0 [] 0 (List.length l) (List.length l) false 3)), (1, (AV.i ((i : Nat) : Int))), (2, (AV.i (((i + 1) : Nat) : Int))), (6, (AV.sl 0 [] 0 (List.length l) (List.length l) false 3)), (16, (AV.v (Value.bool true)))] [(0, (Blk.c (AV.arr (List.length l) 3 (fun (j : Nat) => (W.pkA (W.kAt l j))))))] [0]))) ∧
 ((((i : Nat) : Int) == (((i + 1) : Nat) : Int)) = false →
 ((((0 : Int) ≤ (0 : Int)) ∧ (((0 : Int) ≤ ((i : Nat) : Int)) ∧ (((i : Nat) : Int) ≤ (((List.length l) : Nat) : Int)))) ∧
  ((((0 : Int) ≤ (((i + 1) : Nat) : Int)) ∧ (((((i + 1) : Nat) : Int) ≤ (((List.length l) : Nat) : Int)) ∧ ((((List.length l) : Nat) : Int) ≤ (((List.length l) : Nat) : Int)))) ∧
  (((i + ((List.length l) - (i + 1))) ≤ (List.length l)) ∧
  ((∀ (i1 : Nat), ((i1 < ((List.length l) - (i + 1))) → (W.ShK))) ∧
  ((((0 : Int) ≤ (((i + ((List.length l) - (i + 1))) : Nat) : Int)) ∧ (((((i + ((List.length l) - (i + 1))) : Nat) : Int) ≤ (((List.length l) : Nat) : Int)) ∧ ((((List.length l) : Nat) : Int) ≤ (((List.length l) : Nat) : Int)))) ∧
  ((∀ (i1 : Nat), ((i1 < (Min.min ((List.length l) - (i + ((List.length l) - (i + 1)))) ((List.length l) - (i + ((List.length l) - (i + 1)))))) → (shp (lay (0 + i) ((List.length l) - (i + 1)) (fun (j : Nat) => (W.pkA (W.kAt l j))) (fun (i2 : Nat) => (W.pkA (W.kAt l ((0 + (i + 1)) + i2)))) ((0 + (i + ((List.length l) - (i + 1)))) + i1)) (AV.st [(AV.i (0 : Int)), (AV.i (0 : Int)), (AV.i (0 : Int))])))) ∧
  (Φ Ex.ret (St.mk [(0, (AV.sl 0 [] 0 (i + ((List.length l) - (i + 1))) (List.length l) false 3)), (1, (AV.i ((i : Nat) : Int))), (2, (AV.i (((i + 1) : Nat) : Int))), (6, (AV.sl 0 [] 0 (i + ((List.length l) - (i + 1))) (List.length l) false 3)), (7, (AV.i (((List.length l) : Nat) : Int))), (16, (AV.v (Value.bool false)))] [(0, (Blk.c (AV.arr (List.length l) 3 (lay (0 + (i + ((List.length l) - (i + 1)))) (Min.min ((List.length l) - (i + ((List.length l) - (i + 1)))) ((List.length l) - (i + ((List.length l) - (i + 1))))) (lay (0 + i) ((List.length l) - (i + 1)) (fun (j : Nat) => (W.pkA (W.kAt l j))) (fun (i1 : Nat) => (W.pkA (W.kAt l ((0 + (i + 1)) + i1))))) (fun (x : Nat) => (AV.st [(AV.i (0 : Int)), (AV.i (0 : Int)), (AV.i (0 : Int))]))))))] [0]))))))))))) := by kernel_rfl
theorem heal1_A (x : PI) (a b : Int) (K : Nat) (Φ : Ex → St → Prop) :
  (Holds C P 10 [] K Φ (vc C w_heal1 b_heal1 [] (start [prA x, .pd (.i a), .pd (.i b)] []) lf)) =
  (Fun W.C W.P 35 [(AV.i a), (AV.i b)] [] (W.prA ((Min.min a b), (Max.max a b))) [] ∧
 ((∀ (i : Nat), ((i < 2) → True)) ∧
 ((∀ (i : Nat), ((i < 2) → ((IntKind.i64 = IntKind.i64) ∧ (IntKind.i64 = IntKind.i64)))) ∧
 (Φ Ex.ret (St.mk [(0, (W.prA x)), (1, (AV.pd (AV.i a))), (2, (AV.pd (AV.i b))), (3, (AV.ptr 3 [])), (4, (AV.sb (List.all (List.range 2) (fun (i : Nat) => ((W.two (Prod.fst x) (Prod.snd x) i) == (W.two (Prod.fst ((Min.min a b), (Max.max a b))) (Prod.snd ((Min.min a b), (Max.max a b))) i))))))] [(3, (Blk.c (W.prA x)))] [3]))))) := by kernel_rfl
theorem idxP_A (ex : Bool) (l : List PI) (a b : Int) (K : Nat) (Φ : Ex → St → Prop) :
  (Holds C P 19 [] K Φ (vc C w_idxP b_idxP [] (start [dP ex l, .fn (.func 54) [.pd (.i a), .pd (.i b)]] []) lf)) =
  (LoopOK W.C W.P 19 [] K (bodyAt b_idxP [1, 0, 1, 0]) (St.mk [(0, (W.dP ex l)), (1, (AV.fn (Fn.func (54 : FuncId)) [(AV.pd (AV.i a)), (AV.pd (AV.i b))])), (4, (AV.i (0 : Int))), (7, (AV.i (((List.length l) : Nat) : Int))), (8, (AV.i (0 : Int)))] [] []) (fun (e : Ex) (S' : St) => Holds W.C W.P 19 [] K Φ (after W.C w_idxP b_idxP [1, 0, 1, 0] [] lf e S'))) := by kernel_rfl
noncomputable abbrev bd_idxP_0 : Code := bodyAt (b_idxP) [1, 0, 1, 0]
theorem ok_idxP_0 : codeOK bd_idxP_0 = true := by kernel_rfl
noncomputable abbrev rest_idxP_0 (K : Nat) (Φ : Ex → St → Prop) : Ex → St → Prop := fun e S' => Holds C P 19 [] K Φ (after C w_idxP (b_idxP) [1, 0, 1, 0] [] lf e S')
theorem idxP_L0 (ex : Bool) (l : List PI) (a b : Int) (i : Nat) (K : Nat) (Φ : Ex → St → Prop) :
  (Holds C P 19 [] K (RoundQ C 19 [] K (I_idx ex l a b) (fun i => i ≤ l.length ∧ ∀ k, k < i → pAt l k ≠ ofI a b) (fun i => l.length - i) ((fun i => l.length - i) (i)) (rest_idxP_0 K Φ)) (vc C w_idxP bd_idxP_0 [] ((I_idx ex l a b) (i)) lf)) =
  (((decide (((i : Nat) : Int) < (((List.length l) : Nat) : Int))) = true →
 ((((0 : Int) ≤ ((i : Nat) : Int)) ∧ (((i : Nat) : Int) < (((List.length l) : Nat) : Int))) ∧
  (Fun W.C W.P (54 : FuncId) [(W.prA (W.pAt l i)), (AV.pd (AV.i a)), (AV.pd (AV.i b))] [] (AV.sb (decide (((W.two (Prod.fst (W.pAt l i)) (Prod.snd (W.pAt l i)) 0), (W.two (Prod.fst (W.pAt l i)) (Prod.snd (W.pAt l i)) 1)) = ((Min.min a b), (Max.max a b))))) [] ∧
  (True ∧
  (((decide (((W.two (Prod.fst (W.pAt l i)) (Prod.snd (W.pAt l i)) 0), (W.two (Prod.fst (W.pAt l i)) (Prod.snd (W.pAt l i)) 1)) = ((Min.min a b), (Max.max a b)))) = true →
  (Φ Ex.ret (St.mk [(0, (W.dP ex l)), (1, (AV.fn (Fn.func (54 : FuncId)) [(AV.pd (AV.i a)), (AV.pd (AV.i b))])), (4, (AV.i ((i : Nat) : Int))), (5, (AV.i ((i : Nat) : Int))), (7, (AV.i (((List.length l) : Nat) : Int))), (8, (AV.i ((i : Nat) : Int))), (9, (AV.v (Value.bool true))), (16, (AV.v (Value.bool true)))] [] []))) ∧
  ((decide (((W.two (Prod.fst (W.pAt l i)) (Prod.snd (W.pAt l i)) 0), (W.two (Prod.fst (W.pAt l i)) (Prod.snd (W.pAt l i)) 1)) = ((Min.min a b), (Max.max a b)))) = false →
  ((I64 (((i + 1) : Nat) : Int)) ∧
   ((RoundQ C 19 [] K (I_idx ex l a b) (fun i => i ≤ l.length ∧ ∀ k, k < i → pAt l k ≠ ofI a b) (fun i => l.length - i) ((fun i => l.length - i) (i)) (rest_idxP_0 K Φ)) Ex.normal (St.mk [(0, (W.dP ex l)), (1, (AV.fn (Fn.func (54 : FuncId)) [(AV.pd (AV.i a)), (AV.pd (AV.i b))])), (5, (AV.i ((i : Nat) : Int))), (7, (AV.i (((List.length l) : Nat) : Int))), (8, (AV.i (((i + 1) : Nat) : Int))), (9, (AV.v (Value.bool true))), (16, (AV.v (Value.bool false)))] [] []))))))))) ∧
 ((decide (((i : Nat) : Int) < (((List.length l) : Nat) : Int))) = false →
 (Φ Ex.ret (St.mk [(0, (W.dP ex l)), (1, (AV.fn (Fn.func (54 : FuncId)) [(AV.pd (AV.i a)), (AV.pd (AV.i b))])), (4, (AV.i (-1 : Int))), (7, (AV.i (((List.length l) : Nat) : Int))), (8, (AV.i ((i : Nat) : Int))), (9, (AV.v (Value.bool false)))] [] [])))) := by kernel_rfl
/-- A slice of nothing is some slice of length 0. -/
theorem fun_zero {C : Ctx} {P : Program} {g : Nat} {ex : Bool} {e : Nat} {f : Nat → AV} {r : AV} {H' : List (Nat × Blk)} (h : ∀ q c, Fun C P g [.v (.slice q 0 c)] [] r H') : Fun C P g [.dat 0 ex e f] [] r H' := by
  intro ρ A w vs hlen hrv hH hAb hrb hgl
  match vs, hlen with
  | [v], _ =>
    have h0 := hrv 0 _ _ rfl rfl
    obtain ⟨q, c, rfl⟩ : ∃ q c, v = .slice q 0 c := by
      rcases h0 with ⟨_, hr⟩ | ⟨hl, _⟩
      · generalize hvs : [v] = us at hr
        cases hr with
        | dat0 _ => exact ⟨_, _, (List.cons.inj hvs).1⟩
        | dat q hA hc _ hlen hq hr => exact ⟨_, _, (List.cons.inj hvs).1⟩
      · cases hl
    refine h q c ρ A w [.slice q 0 c] rfl (fun i x v hx hv => ?_) hH hAb hrb hgl
    cases i with
    | zero => cases hx; cases hv; exact .inl ⟨rfl, .v rfl⟩
    | succ i => cases hx
theorem nm1 (l : List Nat) (id : Nat) (b : Blk) : namesOK [(id, 0)] 0 l [0] [(0, b)] = true := by
  simp only [namesOK, keysOf, distinct, memb, List.map, List.all_cons, List.all_nil, List.range_zero, Nat.beq_refl]
  cases memb l id <;> rfl
theorem post_row {C : Ctx} {N : Nat} {S : St} {t id n n' c c' m m' e : Nat} {ex : Bool} {g g' : Nat → AV} (h : look S.tm t = some (.sl id [] 0 n c ex e)) (hb : look S.hp id = some (.c (.arr m e g))) (hn : n = n') (h1 : n' ≤ c') (h2 : c' ≤ c) (hm : m = m') (hg : ∀ i, i < m → g i = g' i) :
    FunPost C N 0 [.tmp t] (.sl 0 [] 0 n' c' false e) [(0, .c (.arr m' e g'))] .ret S :=
  funPost_of (r' := .sl 0 [] 0 n' c' false e) (S2 := { tm := [(t, .sl 0 [] 0 n' c' false e)], hp := [(0, .c (.arr m' e g'))], seen := [0] }) (by simp) (ent_of [(id, 0)] (nm1 _ _ _) (tm_cons h (sm_sl (by simp [look, Nat.beq_refl]) hn (by omega) h2 (by simp)) tm_nil) (hp_cons rfl hb (sm_arr' hm hg) hp_nil)) (by simp [resAV, resAll, resOne, look, Nat.beq_refl])
    (.inr ⟨rfl, rfl, rfl, rfl, h1, Nat.le_refl _, by simp, rfl⟩) fun _ _ h => h
/-- The row handed in by reference stays where it was. -/
theorem post_row1 {C : Ctx} {N : Nat} {S : St} {t n n' c c' m m' e : Nat} {ex : Bool} {g g' : Nat → AV} (h : look S.tm t = some (.sl 0 [] 0 n c ex e)) (hb : look S.hp 0 = some (.c (.arr m e g))) (hn : n = n') (h1 : n' ≤ c') (h2 : c' ≤ c) (hm : m = m') (hg : ∀ i, i < m → g i = g' i)
    (hno : namesOK [(0, 0)] 1 S.seen [0] [(0, Blk.c (AV.arr m' e g'))] = true := by rfl) : FunPost C N 1 [.tmp t] (.sl 0 [] 0 n' c' false e) [(0, .c (.arr m' e g'))] .ret S :=
  funPost_of (r' := .sl 0 [] 0 n' c' false e) (S2 := { tm := [(t, .sl 0 [] 0 n' c' false e)], hp := [(0, .c (.arr m' e g'))], seen := [0] }) (by simp) (ent_of [(0, 0)] hno (tm_cons h (sm_sl (by simp [look, Nat.beq_refl]) hn (by omega) h2 (by simp)) tm_nil) (hp_cons rfl hb (sm_arr' hm hg) hp_nil)) (by simp [resAV, resAll, resOne, look, Nat.beq_refl])
    (.inr ⟨rfl, rfl, rfl, rfl, h1, Nat.le_refl _, by simp, rfl⟩) fun _ _ h => h
theorem post_row_nil {C : Ctx} {N : Nat} {S : St} {t e e' : Nat} {f g' : Nat → AV} (h : look S.tm t = some (.dat 0 true e f)) : FunPost C N 0 [.tmp t] (.sl 0 [] 0 0 0 false e') [(0, .c (.arr 0 e' g'))] .ret S :=
  funPost_of (r' := .sl 0 [] 0 0 0 false e') (S2 := { tm := [(t, .sl 0 [] 0 0 0 false e')], hp := [(0, .c (.arr 0 e' g'))], seen := [0] }) (by simp) (ent_of [] rfl (tm_cons h (sm_nil rfl rfl) tm_nil) (hp_new rfl rfl hp_nil)) (by simp [resAV, resAll, resOne, look, Nat.beq_refl])
    (.inr ⟨rfl, rfl, rfl, rfl, Nat.le_refl _, Nat.le_refl _, by simp, rfl⟩) fun _ _ h => h
theorem cloneP_fun (ex : Bool) (l : List PI) (hn : l.length < 2 ^ 40) : Fun C P F_cloneP [dP ex l] [] (.sl 0 [] 0 l.length l.length false 2) [(0, .c (.arr l.length 2 (fun j => prA (pAt l j))))] := by
  by_cases h0 : l = []
  · subst h0
    refine fun_zero fun q c => ?_
    refine in_cloneP (W := w_cloneP) rfl 0 (by simp) rfl (fun id h => absurd rfl h) ?_
    cases q with
    | none => exact of_eq (cloneP_AN c 0 _) (post_row_nil rfl)
    | some a => exact of_eq (cloneP_AS a c 0 _) ⟨rfl, .inl rfl, (by first | omega | decide | (unfold I64; omega)), post_row rfl rfl rfl (Nat.le_refl _) (Nat.le_refl _) rfl fun i hi => absurd hi (Nat.not_lt_zero i)⟩
  · have hp : 0 < l.length := List.length_pos_iff.2 h0
    refine in_cloneP (W := w_cloneP) rfl 0 (by simp) rfl (fun id h => absurd rfl h) ?_
    exact of_eq (cloneP_A ex l 0 _) ⟨hp, rfl, .inl rfl, (by first | omega | decide | (unfold I64; omega)), post_row rfl rfl (Nat.zero_add _) (Nat.le_refl _) (by omega) (Nat.zero_add _) fun i hi => by simp [cat]⟩
theorem cloneK_fun (ex : Bool) (l : List Pk) (hn : l.length < 2 ^ 40) : Fun C P F_cloneK [dK ex l] [] (.sl 0 [] 0 l.length l.length false 3) [(0, .c (.arr l.length 3 (fun j => pkA (kAt l j))))] := by
  by_cases h0 : l = []
  · subst h0
    refine fun_zero fun q c => ?_
    refine in_cloneK (W := w_cloneK) rfl 0 (by simp) rfl (fun id h => absurd rfl h) ?_
    cases q with
    | none => exact of_eq (cloneK_AN c 0 _) (post_row_nil rfl)
    | some a => exact of_eq (cloneK_AS a c 0 _) ⟨rfl, .inl rfl, (by first | omega | decide | (unfold I64; omega)), post_row rfl rfl rfl (Nat.le_refl _) (Nat.le_refl _) rfl fun i hi => absurd hi (Nat.not_lt_zero i)⟩
  · have hp : 0 < l.length := List.length_pos_iff.2 h0
    refine in_cloneK (W := w_cloneK) rfl 0 (by simp) rfl (fun id h => absurd rfl h) ?_
    exact of_eq (cloneK_A ex l 0 _) ⟨hp, rfl, .inl rfl, (by first | omega | decide | (unfold I64; omega)), post_row rfl rfl (Nat.zero_add _) (Nat.le_refl _) (by omega) (Nat.zero_add _) fun i hi => by simp [cat]⟩
theorem shp_lay {o m : Nat} {f g : Nat → AV} {z : AV} {k : Nat} (hf : shp (f k) z) (hg : shp (g (k - o)) z) : shp (lay o m f g k) z := by
  unfold lay
  split
  · exact hf
  · split
    · exact hg
    · exact hf
theorem del_lay {n i k : Nat} (f : Nat → AV) (z : AV) (hi : i < n) (hk : k < n) : lay (0 + (i + (n - (i + 1)))) (min (n - (i + (n - (i + 1)))) (n - (i + (n - (i + 1))))) (lay (0 + i) (n - (i + 1)) f (fun j => f (0 + (i + 1) + j))) (fun _ => z) k = delF n i z f k := by
  unfold delF lay
  by_cases h1 : k < i
  · rw [if_pos (by omega), if_pos (by omega), if_pos h1]
  · by_cases h2 : k + 1 < n
    · rw [if_pos (by omega), if_neg (by omega), if_pos (by omega), if_neg h1, if_pos h2]
      show f (0 + (i + 1) + (k - (0 + i))) = _
      rw [show 0 + (i + 1) + (k - (0 + i)) = k + 1 by omega]
    · rw [if_neg (by omega), if_pos (by omega), if_neg h1, if_neg h2]
theorem one_id {b : Blk} (id : Nat) (h : look [(0, b)] id ≠ none) : id < 1 := by
  unfold look at h
  split at h
  · rename_i e; have := beq_iff.1 e; omega
  · exact absurd rfl h
theorem delK_fun (l : List Pk) (i : Nat) (hi : i < l.length) (hn : l.length < 2 ^ 40) : Fun C P F_delK [.sl 0 [] 0 l.length l.length false 3, i64 i, i64 (i + 1)] [(0, .c (.arr l.length 3 (fun j => pkA (kAt l j))))] (.sl 0 [] 0 (l.length - 1) l.length false 3) [(0, .c (.arr l.length 3 (delF l.length i (pkA (0, 0, 0)) fun j => pkA (kAt l j))))] := by
  refine in_delK (W := w_delK) rfl 1 (by simp) rfl one_id ?_
  refine of_eq (delK_A l i 1 _) ⟨(by first | omega | decide | (unfold I64; omega)), fun h => ?_, fun h => ?_⟩
  · simp at h; omega
  refine ⟨(by first | omega | decide | (unfold I64; omega)), (by first | omega | decide | (unfold I64; omega)), (by first | omega | decide | (unfold I64; omega)), fun _ _ => ⟨⟨rfl, rfl⟩, ⟨rfl, rfl⟩, ⟨rfl, rfl⟩, trivial⟩, (by first | omega | decide | (unfold I64; omega)), fun _ _ => shp_lay ⟨⟨rfl, rfl⟩, ⟨rfl, rfl⟩, ⟨rfl, rfl⟩, trivial⟩ ⟨⟨rfl, rfl⟩, ⟨rfl, rfl⟩, ⟨rfl, rfl⟩, trivial⟩, ?_⟩
  refine post_row1 rfl rfl (show i + (l.length - (i + 1)) = l.length - 1 by omega) (Nat.sub_le _ _) (Nat.le_refl _) rfl fun k hk => ?_
  exact del_lay (fun j => pkA (kAt l j)) (pkA (0, 0, 0)) hi hk
theorem heal1_fun (x : PI) (a b : Int) : Fun C P F_heal1 [prA x, .pd (.i a), .pd (.i b)] [] (.sb (decide (x = ofI a b))) [] := by
  refine in_heal1 (W := w_heal1) rfl 0 (by simp) rfl (fun id h => absurd rfl h) ?_
  refine of_eq (heal1_A x a b 0 _) ⟨ofP_fun a b, fun _ _ => trivial, fun _ _ => ⟨rfl, rfl⟩, post_tmp rfl (sm_sb ?_)⟩
  obtain ⟨p, q⟩ := x
  show (List.all [0, 1] fun i => (two p q i == two (min a b) (max a b) i)) = _
  simp only [List.all_cons, List.all_nil, two_0, two_1, Bool.and_true, ofI, Prod.mk.injEq]
  by_cases e1 : p = min a b <;> by_cases e2 : q = max a b <;> simp [e1, e2]
theorem idxP_fun (ex : Bool) (l : List PI) (a b : Int) (hn : l.length < 2 ^ 40) : Fun C P F_idxP [dP ex l, .fn (.func 54) [.pd (.i a), .pd (.i b)]] [] (.i (if idxL l (ofI a b) < l.length then (idxL l (ofI a b) : Nat) else -1)) [] := by
  refine in_idxP (W := w_idxP) rfl 0 (by simp) rfl (fun id h => absurd rfl h) ?_
  refine of_eq (idxP_A ex l a b 0 _) ?_
  refine loop_inv (W := w_idxP) ctx mixed ok_idxP_0 (I_idx ex l a b) (fun i => i ≤ l.length ∧ ∀ k, k < i → pAt l k ≠ ofI a b) (fun i => l.length - i) 0 ⟨Nat.zero_le _, fun k hk => by omega⟩ ?_ fun i hi => ?_
  · exact ent_of [] rfl (tm_cons rfl (sm_same rfl) (tm_cons rfl (sm_same rfl) (tm_cons rfl (sm_same rfl) (tm_cons rfl (sm_same rfl) tm_nil)))) hp_nil
  obtain ⟨hi, hz⟩ := hi
  refine of_eq (idxP_L0 ex l a b i 0 _) ⟨fun h => ?_, fun h => ?_⟩
  · simp only [decide_eq_true_eq] at h
    refine ⟨(by first | omega | decide | (unfold I64; omega)), heal1_fun (pAt l i) a b, trivial, fun h2 => ?_, fun h2 => ?_⟩
    · have h2 : pAt l i = ofI a b := of_decide_eq_true h2
      refine post_tmp rfl (sm_int ?_)
      have : idxL l (ofI a b) = i := tw_len (d := (0, 0)) hi (fun k hk => decide_eq_true (hz k hk)) fun _ => decide_eq_false (by simpa using h2)
      rw [this, if_pos (by omega)]
    · have h2 : pAt l i ≠ ofI a b := of_decide_eq_false h2
      exact ⟨(by first | omega | decide | (unfold I64; omega)), round_end (i + 1) ⟨by omega, fun k hk => by
        by_cases e : k = i
        · rw [e]; exact h2
        · exact hz k (by omega)⟩ (ent_of [] rfl (tm_cons rfl (sm_same rfl) (tm_cons rfl (sm_same rfl) (tm_cons rfl (sm_same rfl) (tm_cons rfl (sm_same rfl) tm_nil)))) hp_nil) (by dsimp only; omega)⟩
  · simp only [decide_eq_false_iff_not] at h
    obtain rfl : i = l.length := by omega
    refine post_tmp rfl (sm_int ?_)
    have : idxL l (ofI a b) = l.length := tw_len (d := (0, 0)) hi (fun k hk => decide_eq_true (hz k hk)) fun h => absurd h (Nat.lt_irrefl _)
    rw [this, if_neg (Nat.lt_irrefl _)]
end Go.Bu.W

namespace Go.Bu.W
def filtL (l : List PI) (x : PI) : List PI := l.filter fun y => decide (y ≠ x)
def crDelf : List AV → List (Nat × Blk) → Option (AV × List (Nat × Blk))
  | [.sl _ _ _ n _ _ _, .fn _ [.pd a, .pd b]], [(_, .c (.arr _ _ f))] => some (.sl 0 [] 0 (filtL (toPL n f) (ofI (asI a) (asI b))).length n false 2, [(0, .c (.arr n 2 (fun k => prA (pAt (filtL (toPL n f) (ofI (asI a) (asI b))) k))))])
  | _, _ => none
def crN3 (g : Nat) (args : List AV) (H : List (Nat × Blk)) : Option (AV × List (Nat × Blk)) :=
  sel (Nat.beq g F_delfP) (crDelf args H) <| crN2 g args H
def wayD (keep : List Nat) (nt : Nat) (cuts : List Nat) : Way := ⟨crN3, fun g => Nat.beq g F_delK || Nat.beq g F_delfP, keep, [], nt, cuts⟩
def w_delfP : Way := wayD [0, 1, 4, 5, 6, 7, 12, 19, 29] 42 []
def I_df (n : Nat) (a b : Int) (s : Nat × Nat × (Nat → PI)) : St := { tm := [(0, .sl 0 [] 0 n n false 2), (1, .fn (.func 54) [.pd (.i a), .pd (.i b)]), (5, i64 s.1), (6, i64 s.2.1)], hp := [(0, .c (.arr n 2 (fun k => prA (s.2.2 k))))], seen := [0] }
def J_df (l : List PI) (x : PI) (s : Nat × Nat × (Nat → PI)) : Prop := s.1 ≤ s.2.1 ∧ s.2.1 ≤ l.length ∧ (filtL (l.take s.2.1) x).length = s.1 ∧ (∀ k, k < s.1 → s.2.2 k = pAt (filtL (l.take s.2.1) x) k) ∧ ∀ k, s.2.1 ≤ k → k < l.length → s.2.2 k = pAt l k

theorem delfP_A (l : List PI) (a b : Int) (K : Nat) (Φ : Ex → St → Prop) :
  (Holds C P 42 [] K Φ (vc C w_delfP b_delfP [] (start [.sl 0 [] 0 l.length l.length false 2, .fn (.func 54) [.pd (.i a), .pd (.i b)]] [(0, .c (.arr l.length 2 (fun j => prA (pAt l j))))]) lf)) =
  (Fun W.C W.P 60 [(AV.dat (List.length l) false 2 (fun (i : Nat) => (W.prA (W.pAt l (0 + i))))), (AV.fn (Fn.func (54 : FuncId)) [(AV.pd (AV.i a)), (AV.pd (AV.i b))])] [] (AV.i (if ((W.idxL (W.toPL (List.length l) (fun (i : Nat) => (W.prA (W.pAt l (0 + i))))) ((Min.min a b), (Max.max a b))) < (List.length l)) then (((W.idxL (W.toPL (List.length l) (fun (i : Nat) => (W.prA (W.pAt l (0 + i))))) ((Min.min a b), (Max.max a b))) : Nat) : Int) else (-1 : Int))) [] ∧
 (True ∧
 ((((if ((W.idxL (W.toPL (List.length l) (fun (i : Nat) => (W.prA (W.pAt l (0 + i))))) ((Min.min a b), (Max.max a b))) < (List.length l)) then (((W.idxL (W.toPL (List.length l) (fun (i : Nat) => (W.prA (W.pAt l (0 + i))))) ((Min.min a b), (Max.max a b))) : Nat) : Int) else (-1 : Int)) == (-1 : Int)) = true →
 (Φ Ex.ret (St.mk [(0, (AV.sl 0 [] 0 (List.length l) (List.length l) false 2)), (1, (AV.fn (Fn.func (54 : FuncId)) [(AV.pd (AV.i a)), (AV.pd (AV.i b))])), (4, (AV.sl 0 [] 0 (List.length l) (List.length l) false 2)), (5, (AV.i (if ((W.idxL (W.toPL (List.length l) (fun (i : Nat) => (W.prA (W.pAt l (0 + i))))) ((Min.min a b), (Max.max a b))) < (List.length l)) then (((W.idxL (W.toPL (List.length l) (fun (i : Nat) => (W.prA (W.pAt l (0 + i))))) ((Min.min a b), (Max.max a b))) : Nat) : Int) else (-1 : Int)))), (12, (AV.v (Value.bool true)))] [(0, (Blk.c (AV.arr (List.length l) 2 (fun (j : Nat) => (W.prA (W.pAt l j))))))] [0]))) ∧
 (((if ((W.idxL (W.toPL (List.length l) (fun (i : Nat) => (W.prA (W.pAt l (0 + i))))) ((Min.min a b), (Max.max a b))) < (List.length l)) then (((W.idxL (W.toPL (List.length l) (fun (i : Nat) => (W.prA (W.pAt l (0 + i))))) ((Min.min a b), (Max.max a b))) : Nat) : Int) else (-1 : Int)) == (-1 : Int)) = false →
 ((I64 ((if ((W.idxL (W.toPL (List.length l) (fun (i : Nat) => (W.prA (W.pAt l (0 + i))))) ((Min.min a b), (Max.max a b))) < (List.length l)) then (((W.idxL (W.toPL (List.length l) (fun (i : Nat) => (W.prA (W.pAt l (0 + i))))) ((Min.min a b), (Max.max a b))) : Nat) : Int) else (-1 : Int)) + (1 : Int))) ∧
  (LoopOK W.C W.P 42 [] K (bodyAt b_delfP [1, 1, 1, 0, 1, 0]) (St.mk [(0, (AV.sl 0 [] 0 (List.length l) (List.length l) false 2)), (1, (AV.fn (Fn.func (54 : FuncId)) [(AV.pd (AV.i a)), (AV.pd (AV.i b))])), (4, (AV.dat 0 true 0 (fun (x : Nat) => (AV.v (Value.tuple (List.toArray [])))))), (5, (AV.i (if ((W.idxL (W.toPL (List.length l) (fun (i : Nat) => (W.prA (W.pAt l (0 + i))))) ((Min.min a b), (Max.max a b))) < (List.length l)) then (((W.idxL (W.toPL (List.length l) (fun (i : Nat) => (W.prA (W.pAt l (0 + i))))) ((Min.min a b), (Max.max a b))) : Nat) : Int) else (-1 : Int)))), (6, (AV.i ((if ((W.idxL (W.toPL (List.length l) (fun (i : Nat) => (W.prA (W.pAt l (0 + i))))) ((Min.min a b), (Max.max a b))) < (List.length l)) then (((W.idxL (W.toPL (List.length l) (fun (i : Nat) => (W.prA (W.pAt l (0 + i))))) ((Min.min a b), (Max.max a b))) : Nat) : Int) else (-1 : Int)) + (1 : Int)))), (12, (AV.v (Value.bool false)))] [(0, (Blk.c (AV.arr (List.length l) 2 (fun (j : Nat) => (W.prA (W.pAt l j))))))] [0]) (fun (e : Ex) (S' : St) => Holds W.C W.P 42 [] K Φ (after W.C w_delfP b_delfP [1, 1, 1, 0, 1, 0] [] lf e S')))))))) := by kernel_rfl
noncomputable abbrev bd_delfP_0 : Code := bodyAt (b_delfP) [1, 1, 1, 0, 1, 0]
theorem ok_delfP_0 : codeOK bd_delfP_0 = true := by kernel_rfl
noncomputable abbrev rest_delfP_0 (K : Nat) (Φ : Ex → St → Prop) : Ex → St → Prop := fun e S' => Holds C P 42 [] K Φ (after C w_delfP (b_delfP) [1, 1, 1, 0, 1, 0] [] lf e S')
theorem delfP_L0 (l : List PI) (a b : Int) (s : Nat × Nat × (Nat → PI)) (K : Nat) (Φ : Ex → St → Prop) :
  (Holds C P 42 [] K (RoundQ C 42 [] K (I_df l.length a b) (J_df l (ofI a b)) (fun s => l.length - s.2.1) ((fun s => l.length - s.2.1) (s)) (rest_delfP_0 K Φ)) (vc C w_delfP bd_delfP_0 [] ((I_df l.length a b) (s)) lf)) =
  (((decide ((((Prod.fst (Prod.snd s)) : Nat) : Int) < (((List.length l) : Nat) : Int))) = true →
 ((((0 : Int) ≤ (((Prod.fst (Prod.snd s)) : Nat) : Int)) ∧ ((((Prod.fst (Prod.snd s)) : Nat) : Int) < (((List.length l) : Nat) : Int))) ∧
  (((2 = 2) ∧ ((1 = 1) ∧ (∀ (i : Nat), ((i < 2) → ((true = true) ∧ (true = true)))))) ∧
  (Fun W.C W.P (54 : FuncId) [(W.prA (Prod.snd (Prod.snd s) (0 + (Prod.fst (Prod.snd s))))), (AV.pd (AV.i a)), (AV.pd (AV.i b))] [] (AV.sb (decide (((W.two (Prod.fst (Prod.snd (Prod.snd s) (0 + (Prod.fst (Prod.snd s))))) (Prod.snd (Prod.snd (Prod.snd s) (0 + (Prod.fst (Prod.snd s))))) 0), (W.two (Prod.fst (Prod.snd (Prod.snd s) (0 + (Prod.fst (Prod.snd s))))) (Prod.snd (Prod.snd (Prod.snd s) (0 + (Prod.fst (Prod.snd s))))) 1)) = ((Min.min a b), (Max.max a b))))) [] ∧
  (True ∧
  (((! (decide (((W.two (Prod.fst (Prod.snd (Prod.snd s) (0 + (Prod.fst (Prod.snd s))))) (Prod.snd (Prod.snd (Prod.snd s) (0 + (Prod.fst (Prod.snd s))))) 0), (W.two (Prod.fst (Prod.snd (Prod.snd s) (0 + (Prod.fst (Prod.snd s))))) (Prod.snd (Prod.snd (Prod.snd s) (0 + (Prod.fst (Prod.snd s))))) 1)) = ((Min.min a b), (Max.max a b))))) = true →
  ((((0 : Int) ≤ (((Prod.fst s) : Nat) : Int)) ∧ ((((Prod.fst s) : Nat) : Int) < (((List.length l) : Nat) : Int))) ∧
   (((2 = 2) ∧ ((1 = 1) ∧ (∀ (i : Nat), ((i < 2) → ((true = true) ∧ (true = true)))))) ∧
   ((I64 ((((Prod.fst s) + 1) : Nat) : Int)) ∧
   ((I64 ((((Prod.fst (Prod.snd s)) + 1) : Nat) : Int)) ∧
   ((RoundQ C 42 [] K (I_df l.length a b) (J_df l (ofI a b)) (fun s => l.length - s.2.1) ((fun s => l.length - s.2.1) (s)) (rest_delfP_0 K Φ)) Ex.normal (St.mk [(0, (AV.sl 0 [] 0 (List.length l) (List.length l) false 2)), (1, (AV.fn (Fn.func (54 : FuncId)) [(AV.pd (AV.i a)), (AV.pd (AV.i b))])), (5, (AV.i ((((Prod.fst s) + 1) : Nat) : Int))), (6, (AV.i ((((Prod.fst (Prod.snd s)) + 1) : Nat) : Int))), (7, (AV.ptr 7 [])), (19, (AV.v (Value.bool true))), (29, (AV.v (Value.bool true)))] [(0, (Blk.c (AV.arr (List.length l) 2 (fun (j : Nat) => (if (j = (0 + (Prod.fst s))) then (W.prA (Prod.snd (Prod.snd s) (0 + (Prod.fst (Prod.snd s))))) else (W.prA (Prod.snd (Prod.snd s) j))))))), (7, (Blk.c (W.prA (Prod.snd (Prod.snd s) (0 + (Prod.fst (Prod.snd s)))))))] [7, 0]))))))) ∧
  ((! (decide (((W.two (Prod.fst (Prod.snd (Prod.snd s) (0 + (Prod.fst (Prod.snd s))))) (Prod.snd (Prod.snd (Prod.snd s) (0 + (Prod.fst (Prod.snd s))))) 0), (W.two (Prod.fst (Prod.snd (Prod.snd s) (0 + (Prod.fst (Prod.snd s))))) (Prod.snd (Prod.snd (Prod.snd s) (0 + (Prod.fst (Prod.snd s))))) 1)) = ((Min.min a b), (Max.max a b))))) = false →
  ((I64 ((((Prod.fst (Prod.snd s)) + 1) : Nat) : Int)) ∧
   ((RoundQ C 42 [] K (I_df l.length a b) (J_df l (ofI a b)) (fun s => l.length - s.2.1) ((fun s => l.length - s.2.1) (s)) (rest_delfP_0 K Φ)) Ex.normal (St.mk [(0, (AV.sl 0 [] 0 (List.length l) (List.length l) false 2)), (1, (AV.fn (Fn.func (54 : FuncId)) [(AV.pd (AV.i a)), (AV.pd (AV.i b))])), (5, (AV.i (((Prod.fst s) : Nat) : Int))), (6, (AV.i ((((Prod.fst (Prod.snd s)) + 1) : Nat) : Int))), (7, (AV.ptr 7 [])), (19, (AV.v (Value.bool true))), (29, (AV.v (Value.bool false)))] [(0, (Blk.c (AV.arr (List.length l) 2 (fun (k : Nat) => (W.prA (Prod.snd (Prod.snd s) k)))))), (7, (Blk.c (W.prA (Prod.snd (Prod.snd s) (0 + (Prod.fst (Prod.snd s)))))))] [7, 0])))))))))) ∧
 ((decide ((((Prod.fst (Prod.snd s)) : Nat) : Int) < (((List.length l) : Nat) : Int))) = false →
 ((((0 : Int) ≤ (((Prod.fst s) : Nat) : Int)) ∧ (((((Prod.fst s) : Nat) : Int) ≤ (((List.length l) : Nat) : Int)) ∧ ((((List.length l) : Nat) : Int) ≤ (((List.length l) : Nat) : Int)))) ∧
  ((∀ (i : Nat), ((i < (Min.min ((List.length l) - (Prod.fst s)) ((List.length l) - (Prod.fst s)))) → ((2 = 2) ∧ ((1 = 1) ∧ (∀ (i1 : Nat), ((i1 < 2) → ((true = true) ∧ (true = true)))))))) ∧
  ((((0 : Int) ≤ (0 : Int)) ∧ (((0 : Int) ≤ (((Prod.fst s) : Nat) : Int)) ∧ ((((Prod.fst s) : Nat) : Int) ≤ (((List.length l) : Nat) : Int)))) ∧
  (Φ Ex.ret (St.mk [(0, (AV.sl 0 [] 0 (List.length l) (List.length l) false 2)), (1, (AV.fn (Fn.func (54 : FuncId)) [(AV.pd (AV.i a)), (AV.pd (AV.i b))])), (4, (AV.sl 0 [] 0 (Prod.fst s) (List.length l) false 2)), (5, (AV.i (((Prod.fst s) : Nat) : Int))), (6, (AV.i (((Prod.fst (Prod.snd s)) : Nat) : Int))), (19, (AV.v (Value.bool false)))] [(0, (Blk.c (AV.arr (List.length l) 2 (lay (0 + (Prod.fst s)) (Min.min ((List.length l) - (Prod.fst s)) ((List.length l) - (Prod.fst s))) (fun (k : Nat) => (W.prA (Prod.snd (Prod.snd s) k))) (fun (x : Nat) => (AV.arr 2 1 (fun (x1 : Nat) => (AV.i (0 : Int)))))))))] [0]))))))) := by kernel_rfl
theorem toPL_pA (l : List PI) : toPL l.length (fun i => prA (pAt l i)) = l := by
  unfold toPL
  refine List.ext_getElem (by simp) fun i h1 h2 => ?_
  simp only [List.getElem_map, List.getElem_range, toP, asI, two_0]
  simp [List.getD_eq_getElem?_getD, List.getElem?_eq_getElem h2, two]
theorem take_step {α : Type} {l : List α} {j : Nat} {d : α} (h : j < l.length) : l.take (j + 1) = l.take j ++ [l.getD j d] := by
  rw [List.take_succ_eq_append_getElem h, List.getD_eq_getElem?_getD, List.getElem?_eq_getElem h]; rfl
theorem pAt_lt {l : List PI} {j : Nat} (h : j < l.length) : pAt l j = l[j] := by
  show l.getD j (0, 0) = _
  rw [List.getD_eq_getElem?_getD, List.getElem?_eq_getElem h]; rfl
theorem filt_keep {l : List PI} {x : PI} {j : Nat} (h : j < l.length) (hx : pAt l j ≠ x) : filtL (l.take (j + 1)) x = filtL (l.take j) x ++ [pAt l j] := by
  unfold filtL
  rw [take_step (d := (0, 0)) h, List.filter_append, List.filter_cons_of_pos (p := fun y => decide (y ≠ x)) (a := l.getD j (0, 0)) (decide_eq_true hx)]; rfl
theorem filt_drop {l : List PI} {x : PI} {j : Nat} (h : j < l.length) (hx : pAt l j = x) : filtL (l.take (j + 1)) x = filtL (l.take j) x := by
  unfold filtL
  rw [take_step (d := (0, 0)) h, List.filter_append, List.filter_cons_of_neg (by simpa using hx)]; simp
theorem filt_all {l : List PI} {x : PI} (h : ∀ k, k < l.length → pAt l k ≠ x) : filtL l x = l := by
  unfold filtL
  rw [List.filter_eq_self]
  intro y hy
  obtain ⟨j, hj, rfl⟩ := List.getElem_of_mem hy
  have := h j hj
  rw [pAt_lt hj] at this
  exact decide_eq_true this
theorem tw_spec {α : Type} (p : α → Bool) (d : α) : ∀ l : List α, (l.takeWhile p).length ≤ l.length ∧ (∀ k, k < (l.takeWhile p).length → p (l.getD k d) = true) ∧ ((l.takeWhile p).length < l.length → p (l.getD (l.takeWhile p).length d) = false)
  | [] => ⟨Nat.le_refl _, fun k hk => absurd hk (Nat.not_lt_zero k), fun h => absurd h (Nat.lt_irrefl _)⟩
  | y :: r => by
    have ih := tw_spec p d r
    cases e : p y with
    | false =>
      rw [List.takeWhile_cons_of_neg (by simp [e])]
      exact ⟨Nat.zero_le _, fun k hk => absurd hk (Nat.not_lt_zero k), fun _ => by simpa using e⟩
    | true =>
      rw [List.takeWhile_cons_of_pos e]
      simp only [List.length_cons]
      refine ⟨by omega, fun k hk => ?_, fun h => ?_⟩
      · cases k with
        | zero => simpa using e
        | succ k => simpa using ih.2.1 k (by omega)
      · simpa using ih.2.2 (by omega)
theorem idx_spec (l : List PI) (x : PI) : idxL l x ≤ l.length ∧ (∀ k, k < idxL l x → pAt l k ≠ x) ∧ (idxL l x < l.length → pAt l (idxL l x) = x) := by
  obtain ⟨h1, h2, h3⟩ := tw_spec (fun y => decide (y ≠ x)) (0, 0) l
  exact ⟨h1, fun k hk => of_decide_eq_true (h2 k hk), fun h => Decidable.of_not_not (of_decide_eq_false (h3 h))⟩
theorem pAt_app {l : List PI} {y : PI} {k n : Nat} (hn : l.length = n) : pAt (l ++ [y]) k = if k = n then y else pAt l k := by
  subst hn
  simp only [List.getD_eq_getElem?_getD]
  by_cases h : k = l.length
  · rw [if_pos h, h]; simp
  · rw [if_neg h]
    by_cases h2 : k < l.length
    · rw [List.getElem?_append_left h2]
    · rw [List.getElem?_eq_none (by simp; omega), List.getElem?_eq_none (by omega)]
theorem prA0 : (AV.arr 2 1 fun _ => .i 0) = prA (0, 0) := by
  show AV.arr 2 1 _ = AV.arr 2 1 _
  congr 1
  funext j
  cases j <;> rfl
theorem delfP_fun (l : List PI) (a b : Int) (hn : l.length < 2 ^ 40) : Fun C P F_delfP [.sl 0 [] 0 l.length l.length false 2, .fn (.func 54) [.pd (.i a), .pd (.i b)]] [(0, .c (.arr l.length 2 (fun j => prA (pAt l j))))] (.sl 0 [] 0 (filtL l (ofI a b)).length l.length false 2) [(0, .c (.arr l.length 2 (fun j => prA (pAt (filtL l (ofI a b)) j))))] := by
  refine in_delfP (W := w_delfP) rfl 1 (by simp) rfl one_id ?_
  refine of_eq (delfP_A l a b 1 _) ?_
  simp only [Nat.zero_add]
  have e0 : toPL l.length (fun i => prA (pAt l i)) = l := toPL_pA l
  rw [e0]
  obtain ⟨h1, h2, h3⟩ := idx_spec l (ofI a b)
  have e1 : ((min a b, max a b) : PI) = ofI a b := rfl
  rw [e1]
  refine ⟨idxP_fun false l a b hn, trivial, fun h => ?_, fun h => ?_⟩
  · have hi : ¬ idxL l (ofI a b) < l.length := fun hlt => by rw [if_pos hlt] at h; simp at h
    have hf : filtL l (ofI a b) = l := filt_all fun k hk => h2 k (by omega)
    rw [hf]
    exact post_row1 rfl rfl rfl (Nat.le_refl _) (Nat.le_refl _) rfl fun k hk => rfl
  · have hi : idxL l (ofI a b) < l.length := by
      refine Classical.byContradiction fun hlt => ?_
      rw [if_neg hlt] at h; simp at h
    rw [if_pos hi]
    obtain ⟨i, hI⟩ : ∃ i, i = idxL l (ofI a b) := ⟨_, rfl⟩
    rw [← hI] at h1 h2 h3 hi ⊢
    have hpt : ∀ k, k < i → pAt (l.take i) k = pAt l k := fun k hk => by
      rw [pAt_lt (by simp; omega), pAt_lt (by omega), List.getElem_take]
    have hfi : filtL (l.take i) (ofI a b) = l.take i := filt_all fun k hk => by
      have hk : k < i := by simp at hk; omega
      rw [hpt k hk]; exact h2 k hk
    refine ⟨(by first | omega | decide | (unfold I64; omega)), ?_⟩
    refine loop_inv (W := w_delfP) ctx mixed ok_delfP_0 (I_df l.length a b) (J_df l (ofI a b)) (fun s => l.length - s.2.1) (i, i + 1, pAt l) ⟨by dsimp only; omega, by dsimp only; omega, ?_, ?_, fun k _ _ => rfl⟩ ?_ fun s hs => ?_
    · dsimp only
      rw [filt_drop hi (h3 hi), hfi]; simp; omega
    · dsimp only
      intro k hk
      rw [filt_drop hi (h3 hi), hfi, hpt k hk]
    · exact ent_of [(0, 0)] rfl (tm_cons rfl (sm_sl rfl rfl (Nat.le_refl _) (Nat.le_refl _) (fun h => ⟨h, rfl⟩)) (tm_cons rfl (sm_same rfl) (tm_cons rfl (sm_same rfl) (tm_cons rfl (sm_same rfl) tm_nil)))) (hp_cons rfl rfl (sm_same rfl) hp_nil)
    obtain ⟨i, j, c⟩ := s
    obtain ⟨g1, g2, g3, g4, g5⟩ := hs
    dsimp only at g1 g2 g3 g4 g5
    refine of_eq (delfP_L0 l a b (i, j, c) 1 _) ?_
    dsimp only
    refine ⟨fun h => ?_, fun h => ?_⟩
    · simp only [decide_eq_true_eq] at h
      have hlt : j < l.length := by omega
      simp only [Nat.zero_add]
      have e2 : ∀ p : PI, ((two p.1 p.2 0, two p.1 p.2 1) : PI) = p := fun p => rfl
      rw [e1, e2]
      have hc : c j = pAt l j := g5 j (Nat.le_refl _) hlt
      refine ⟨(by first | omega | decide | (unfold I64; omega)), (by simp), heal1_fun (c j) a b, trivial, fun h5 => ⟨(by first | omega | decide | (unfold I64; omega)), (by simp), (by first | omega | decide | (unfold I64; omega)), (by first | omega | decide | (unfold I64; omega)), ?_⟩, fun h5 => ⟨(by first | omega | decide | (unfold I64; omega)), ?_⟩⟩
      · have h5 : pAt l j ≠ ofI a b := by rw [hc] at h5; simpa using h5
        refine round_end (i + 1, j + 1, fun k => if k = i then c j else c k) ⟨by dsimp only; omega, by dsimp only; omega, ?_, fun k hk => ?_, fun k hk hkl => ?_⟩ (ent_of [(0, 0)] rfl (tm_cons rfl (sm_sl rfl rfl (Nat.le_refl _) (Nat.le_refl _) (fun h => ⟨h, rfl⟩)) (tm_cons rfl (sm_same rfl) (tm_cons rfl (sm_same rfl) (tm_cons rfl (sm_same rfl) tm_nil)))) (hp_cons rfl rfl (sm_arr fun k hk => ?_) hp_nil)) (by dsimp only; omega)
        · dsimp only
          rw [filt_keep hlt h5]; simp; omega
        · dsimp only at hk ⊢
          rw [filt_keep hlt h5, pAt_app g3]
          by_cases e : k = i
          · rw [if_pos e, if_pos e, hc]
          · rw [if_neg e, if_neg e]; exact g4 k (by omega)
        · dsimp only at hk ⊢
          rw [if_neg (by omega)]; exact g5 k (by omega) hkl
        · dsimp only
          by_cases e : k = i
          · rw [if_pos e, if_pos e]
          · rw [if_neg e, if_neg e]
      · have h5 : pAt l j = ofI a b := by rw [hc] at h5; simpa using h5
        refine round_end (i, j + 1, c) ⟨by dsimp only; omega, by dsimp only; omega, ?_, fun k hk => ?_, fun k hk hkl => ?_⟩ (ent_of [(0, 0)] rfl (tm_cons rfl (sm_sl rfl rfl (Nat.le_refl _) (Nat.le_refl _) (fun h => ⟨h, rfl⟩)) (tm_cons rfl (sm_same rfl) (tm_cons rfl (sm_same rfl) (tm_cons rfl (sm_same rfl) tm_nil)))) (hp_cons rfl rfl (sm_same rfl) hp_nil)) (by dsimp only; omega)
        · dsimp only
          rw [filt_drop hlt h5]; exact g3
        · dsimp only
          rw [filt_drop hlt h5]; exact g4 k hk
        · dsimp only at hk ⊢
          exact g5 k (by omega) hkl
    · simp only [decide_eq_false_iff_not] at h
      obtain rfl : j = l.length := by omega
      rw [List.take_length] at g3 g4
      refine ⟨(by first | omega | decide | (unfold I64; omega)), fun _ _ => ⟨rfl, rfl, fun _ _ => ⟨rfl, rfl⟩⟩, (by first | omega | decide | (unfold I64; omega)), ?_⟩
      refine post_row1 rfl rfl g3.symm (by omega) (Nat.le_refl _) rfl fun k hk => ?_
      rw [prA0]
      unfold lay
      by_cases e : k < i
      · rw [if_pos (by omega), ← g4 k e]
      · rw [if_neg (by omega), if_pos (by omega)]
        have : pAt (filtL l (ofI a b)) k = (0, 0) := by
          show List.getD _ _ _ = _
          rw [List.getD_eq_getElem?_getD, List.getElem?_eq_none (by omega)]; rfl
        rw [this]
end Go.Bu.W

namespace Go.Bu.W
def insF (i : Nat) (x : AV) (f : Nat → AV) (k : Nat) : AV := if k < i then f k else if k = i then x else f (k - 1)
def firstOf : AV → AV
  | .st (x :: _) => x
  | .arr _ _ f => f 0
  | x => x
def crOvl : List AV → List (Nat × Blk) → Option (AV × List (Nat × Blk))
  | [.sl _ _ _ _ _ _ _, .sl _ _ _ _ _ _ _], H => some (.v (.bool false), H)
  | _, _ => none
def crIns : List AV → List (Nat × Blk) → Option (AV × List (Nat × Blk))
  | [.sl _ _ _ n _ _ e, i, .sl _ _ _ _ _ _ _], [(_, .c (.arr _ _ f)), (_, .c v)] => some (.sl 2 [] 0 (n + 1) (n + 1) false e, [(2, .c (.arr (n + 1) e (insF (asI i).toNat (firstOf v) f)))])
  | _, _ => none
def crN4 (g : Nat) (args : List AV) (H : List (Nat × Blk)) : Option (AV × List (Nat × Blk)) :=
  sel (Nat.beq g F_insP) (crIns args H) <| sel (Nat.beq g 58) (crOvl args H) <| crN3 g args H
def byrefI (g : Nat) : Bool := Nat.beq g F_delK || Nat.beq g F_delfP || Nat.beq g F_insP || Nat.beq g 58
def wayI (keep : List Nat) (nt : Nat) (cuts : List Nat) : Way := ⟨crN4, byrefI, keep, [40], nt, cuts⟩
def w_insP : Way := wayI [0, 1, 2, 6, 7, 8, 9, 16, 22, 31, 68] 95 []
abbrev mkP (xs : List Value) : AV := .arr 2 1 (fun j => .v (xs.getD j undef))

theorem insP_AE (l : List PI) (x : PI) (K : Nat) (Φ : Ex → St → Prop) :
  (Holds C P 95 [] K Φ (vc C w_insP b_insP [] (start [.sl 0 [] 0 l.length l.length false 2, i64 l.length, .sl 1 [] 0 1 1 true 2] [(0, .c (.arr l.length 2 (fun j => prA (pAt l j)))), (1, .c (.arr 1 2 (fun _ => prA x)))]) lf)) =
  ((((0 : Int) ≤ (((List.length l) : Nat) : Int)) ∧ (((((List.length l) : Nat) : Int) ≤ (((List.length l) : Nat) : Int)) ∧ ((((List.length l) : Nat) : Int) ≤ (((List.length l) : Nat) : Int)))) ∧
 ((false = true →
 (Φ Ex.ret (St.mk [(0, (AV.sl 0 [] 0 (List.length l) (List.length l) false 2)), (1, (AV.i (((List.length l) : Nat) : Int))), (2, (AV.sl 1 [] 0 1 1 true 2)), (6, (AV.sl 0 [] 0 (List.length l) (List.length l) false 2)), (7, (AV.i (1 : Int))), (16, (AV.v (Value.bool true)))] [(0, (Blk.c (AV.arr (List.length l) 2 (fun (j : Nat) => (W.prA (W.pAt l j)))))), (1, (Blk.c (AV.arr 1 2 (fun (x1 : Nat) => (W.prA x)))))] [0, 1]))) ∧
 (false = false →
 ((((((List.length l) : Nat) : Int) == (((List.length l) : Nat) : Int)) = true →
  (((((List.length l) + 1) * 16) ≤ 140737488355328) ∧
   (Φ Ex.ret (St.mk [(0, (AV.sl 0 [] 0 (List.length l) (List.length l) false 2)), (1, (AV.i (((List.length l) : Nat) : Int))), (2, (AV.sl 1 [] 0 1 1 true 2)), (6, (AV.sl 25 [] 0 ((List.length l) + 1) ((List.length l) + 1) false 2)), (7, (AV.i (1 : Int))), (8, (AV.i (((List.length l) : Nat) : Int))), (16, (AV.v (Value.bool false))), (22, (AV.v (Value.bool true)))] [(1, (Blk.c (AV.arr 1 2 (fun (x1 : Nat) => (W.prA x))))), (25, (Blk.c (AV.arr ((List.length l) + 1) 2 (cat (List.length l) (fun (i : Nat) => (W.prA (W.pAt l (0 + i)))) (fun (i : Nat) => (W.prA x))))))] [25, 0, 1])))) ∧
  (((((List.length l) : Nat) : Int) == (((List.length l) : Nat) : Int)) = false →
  ((I64 ((((List.length l) + 1) : Nat) : Int)) ∧
   (Holds W.C W.P 95 [] K Φ (VC.fail 4)))))))) := by kernel_rfl
theorem insP_AX (l : List PI) (x : PI) (rc i : Nat) (sp : Nat → List Value) (K : Nat) (Φ : Ex → St → Prop) :
  (Holds C P 95 [] K Φ (vc C w_insP b_insP [] (start [.sl 0 [] 0 l.length rc true 2, i64 i, .sl 1 [] 0 1 1 true 2] [(0, .c (.arr rc 2 (fun j => if j < l.length then prA (pAt l j) else mkP (sp j)))), (1, .c (.arr 1 2 (fun _ => prA x)))]) lf)) =
  ((((0 : Int) ≤ ((i : Nat) : Int)) ∧ ((((i : Nat) : Int) ≤ (((List.length l) : Nat) : Int)) ∧ ((((List.length l) : Nat) : Int) ≤ ((rc : Nat) : Int)))) ∧
 ((false = true →
 (Φ Ex.ret (St.mk [(0, (AV.sl 0 [] 0 (List.length l) rc true 2)), (1, (AV.i ((i : Nat) : Int))), (2, (AV.sl 1 [] 0 1 1 true 2)), (6, (AV.sl 0 [] 0 (List.length l) rc true 2)), (7, (AV.i (1 : Int))), (16, (AV.v (Value.bool true)))] [(0, (Blk.c (AV.arr rc 2 (fun (j : Nat) => (if (j < (List.length l)) then (W.prA (W.pAt l j)) else (AV.arr 2 1 (fun (j1 : Nat) => (AV.v (List.getD (sp j) j1 (Value.tuple (List.toArray []))))))))))), (1, (Blk.c (AV.arr 1 2 (fun (x1 : Nat) => (W.prA x)))))] [0, 1]))) ∧
 (false = false →
 (((((i : Nat) : Int) == (((List.length l) : Nat) : Int)) = true →
  ((rc = (List.length l)) ∧
   ((((List.length l) = 0) ∨ (0 < 1)) ∧
   (((((List.length l) + 1) * 16) ≤ 140737488355328) ∧
   (Φ Ex.ret (St.mk [(0, (AV.sl 0 [] 0 (List.length l) rc true 2)), (1, (AV.i ((i : Nat) : Int))), (2, (AV.sl 1 [] 0 1 1 true 2)), (6, (AV.sl 25 [] 0 ((List.length l) + 1) ((List.length l) + 1) false 2)), (7, (AV.i (1 : Int))), (8, (AV.i (((List.length l) : Nat) : Int))), (16, (AV.v (Value.bool false))), (22, (AV.v (Value.bool true)))] [(0, (Blk.c (AV.arr rc 2 (fun (j : Nat) => (if (j < (List.length l)) then (W.prA (W.pAt l j)) else (AV.arr 2 1 (fun (j1 : Nat) => (AV.v (List.getD (sp j) j1 (Value.tuple (List.toArray []))))))))))), (1, (Blk.c (AV.arr 1 2 (fun (x1 : Nat) => (W.prA x))))), (25, (Blk.c (AV.arr ((List.length l) + 1) 2 (cat (List.length l) (fun (i1 : Nat) => (if ((0 + i1) < (List.length l)) then (W.prA (W.pAt l (0 + i1))) else (AV.arr 2 1 (fun (j : Nat) => (AV.v (List.getD (sp (0 + i1)) j (Value.tuple (List.toArray [])))))))) (fun (i1 : Nat) => (W.prA x))))))] [25, 0, 1])))))) ∧
  ((((i : Nat) : Int) == (((List.length l) : Nat) : Int)) = false →
  ((I64 ((((List.length l) + 1) : Nat) : Int)) ∧
   (((decide (((((List.length l) + 1) : Nat) : Int) > ((rc : Nat) : Int))) = true →
   ((((0 : Int) ≤ (0 : Int)) ∧ (((0 : Int) ≤ ((i : Nat) : Int)) ∧ (((i : Nat) : Int) ≤ ((rc : Nat) : Int)))) ∧
    ((I64 ((((List.length l) + 1) : Nat) : Int)) ∧
    ((I64 (((((List.length l) + 1) : Nat) : Int) - ((i : Nat) : Int))) ∧
    ((((0 : Int) ≤ (((((List.length l) + 1) : Nat) : Int) - ((i : Nat) : Int))) ∧ (((Int.toNat (((((List.length l) + 1) : Nat) : Int) - ((i : Nat) : Int))) * 16) ≤ 140737488355328)) ∧
    ((rc < (i + (Int.toNat (((((List.length l) + 1) : Nat) : Int) - ((i : Nat) : Int))))) ∧
    ((((i + (Int.toNat (((((List.length l) + 1) : Nat) : Int) - ((i : Nat) : Int)))) * 16) ≤ 140737488355328) ∧
    ((((0 : Int) ≤ ((i : Nat) : Int)) ∧ ((((i : Nat) : Int) ≤ (((i + (Int.toNat (((((List.length l) + 1) : Nat) : Int) - ((i : Nat) : Int)))) : Nat) : Int)) ∧ ((((i + (Int.toNat (((((List.length l) + 1) : Nat) : Int) - ((i : Nat) : Int)))) : Nat) : Int) ≤ (((i + (Int.toNat (((((List.length l) + 1) : Nat) : Int) - ((i : Nat) : Int)))) : Nat) : Int)))) ∧
    ((∀ (i1 : Nat), ((i1 < (Min.min 1 ((i + (Int.toNat (((((List.length l) + 1) : Nat) : Int) - ((i : Nat) : Int)))) - i))) → (shp (cat i (fun (i2 : Nat) => (if ((0 + i2) < (List.length l)) then (W.prA (W.pAt l (0 + i2))) else (AV.arr 2 1 (fun (j : Nat) => (AV.v (List.getD (sp (0 + i2)) j (Value.tuple (List.toArray [])))))))) (fun (x1 : Nat) => (AV.arr 2 1 (fun (x2 : Nat) => (AV.i (0 : Int))))) ((0 + i) + i1)) (W.prA x)))) ∧
    ((I64 (((i + 1) : Nat) : Int)) ∧
    ((((0 : Int) ≤ (((i + 1) : Nat) : Int)) ∧ (((((i + 1) : Nat) : Int) ≤ (((i + (Int.toNat (((((List.length l) + 1) : Nat) : Int) - ((i : Nat) : Int)))) : Nat) : Int)) ∧ ((((i + (Int.toNat (((((List.length l) + 1) : Nat) : Int) - ((i : Nat) : Int)))) : Nat) : Int) ≤ (((i + (Int.toNat (((((List.length l) + 1) : Nat) : Int) - ((i : Nat) : Int)))) : Nat) : Int)))) ∧
    ((((0 : Int) ≤ ((i : Nat) : Int)) ∧ ((((i : Nat) : Int) ≤ (((List.length l) : Nat) : Int)) ∧ ((((List.length l) : Nat) : Int) ≤ ((rc : Nat) : Int)))) ∧
    ((∀ (i1 : Nat), ((i1 < (Min.min ((List.length l) - i) ((i + (Int.toNat (((((List.length l) + 1) : Nat) : Int) - ((i : Nat) : Int)))) - (i + 1)))) → (shp (lay (0 + i) (Min.min 1 ((i + (Int.toNat (((((List.length l) + 1) : Nat) : Int) - ((i : Nat) : Int)))) - i)) (cat i (fun (i2 : Nat) => (if ((0 + i2) < (List.length l)) then (W.prA (W.pAt l (0 + i2))) else (AV.arr 2 1 (fun (j : Nat) => (AV.v (List.getD (sp (0 + i2)) j (Value.tuple (List.toArray [])))))))) (fun (x1 : Nat) => (AV.arr 2 1 (fun (x2 : Nat) => (AV.i (0 : Int)))))) (fun (i2 : Nat) => (W.prA x)) ((0 + (i + 1)) + i1)) (if (((0 + i) + i1) < (List.length l)) then (W.prA (W.pAt l ((0 + i) + i1))) else (AV.arr 2 1 (fun (j : Nat) => (AV.v (List.getD (sp ((0 + i) + i1)) j (Value.tuple (List.toArray [])))))))))) ∧
    (Φ Ex.ret (St.mk [(0, (AV.sl 0 [] 0 (List.length l) rc true 2)), (1, (AV.i ((i : Nat) : Int))), (2, (AV.sl 1 [] 0 1 1 true 2)), (6, (AV.sl 40 [] 0 (i + (Int.toNat (((((List.length l) + 1) : Nat) : Int) - ((i : Nat) : Int)))) (i + (Int.toNat (((((List.length l) + 1) : Nat) : Int) - ((i : Nat) : Int)))) false 2)), (7, (AV.i (1 : Int))), (8, (AV.i (((List.length l) : Nat) : Int))), (9, (AV.sl 40 [] 0 (i + (Int.toNat (((((List.length l) + 1) : Nat) : Int) - ((i : Nat) : Int)))) (i + (Int.toNat (((((List.length l) + 1) : Nat) : Int) - ((i : Nat) : Int)))) false 2)), (16, (AV.v (Value.bool false))), (22, (AV.v (Value.bool false))), (31, (AV.v (Value.bool true)))] [(0, (Blk.c (AV.arr rc 2 (fun (j : Nat) => (if (j < (List.length l)) then (W.prA (W.pAt l j)) else (AV.arr 2 1 (fun (j1 : Nat) => (AV.v (List.getD (sp j) j1 (Value.tuple (List.toArray []))))))))))), (1, (Blk.c (AV.arr 1 2 (fun (x1 : Nat) => (W.prA x))))), (40, (Blk.c (AV.arr (i + (Int.toNat (((((List.length l) + 1) : Nat) : Int) - ((i : Nat) : Int)))) 2 (lay (0 + (i + 1)) (Min.min ((List.length l) - i) ((i + (Int.toNat (((((List.length l) + 1) : Nat) : Int) - ((i : Nat) : Int)))) - (i + 1))) (lay (0 + i) (Min.min 1 ((i + (Int.toNat (((((List.length l) + 1) : Nat) : Int) - ((i : Nat) : Int)))) - i)) (cat i (fun (i1 : Nat) => (if ((0 + i1) < (List.length l)) then (W.prA (W.pAt l (0 + i1))) else (AV.arr 2 1 (fun (j : Nat) => (AV.v (List.getD (sp (0 + i1)) j (Value.tuple (List.toArray [])))))))) (fun (x1 : Nat) => (AV.arr 2 1 (fun (x2 : Nat) => (AV.i (0 : Int)))))) (fun (i1 : Nat) => (W.prA x))) (fun (i1 : Nat) => (if (((0 + i) + i1) < (List.length l)) then (W.prA (W.pAt l ((0 + i) + i1))) else (AV.arr 2 1 (fun (j : Nat) => (AV.v (List.getD (sp ((0 + i) + i1)) j (Value.tuple (List.toArray []))))))))))))] [40, 0, 1]))))))))))))))) ∧
   ((decide (((((List.length l) + 1) : Nat) : Int) > ((rc : Nat) : Int))) = false →
   ((I64 ((((List.length l) + 1) : Nat) : Int)) ∧
    ((((0 : Int) ≤ (0 : Int)) ∧ (((0 : Int) ≤ ((((List.length l) + 1) : Nat) : Int)) ∧ (((((List.length l) + 1) : Nat) : Int) ≤ ((rc : Nat) : Int)))) ∧
    ((I64 (((i + 1) : Nat) : Int)) ∧
    ((((0 : Int) ≤ (((i + 1) : Nat) : Int)) ∧ (((((i + 1) : Nat) : Int) ≤ ((((List.length l) + 1) : Nat) : Int)) ∧ (((((List.length l) + 1) : Nat) : Int) ≤ ((rc : Nat) : Int)))) ∧
    (Fun W.C W.P 58 [(AV.sl 0 [] 0 1 1 true 2), (AV.sl 1 [] (0 + (i + 1)) (((List.length l) + 1) - (i + 1)) (rc - (i + 1)) true 2)] [(0, (Blk.c (AV.arr 1 2 (fun (x1 : Nat) => (W.prA x))))), (1, (Blk.c (AV.arr rc 2 (fun (j : Nat) => (if (j < (List.length l)) then (W.prA (W.pAt l j)) else (AV.arr 2 1 (fun (j1 : Nat) => (AV.v (List.getD (sp j) j1 (Value.tuple (List.toArray [])))))))))))] (AV.v (Value.bool false)) [(0, (Blk.c (AV.arr 1 2 (fun (x1 : Nat) => (W.prA x))))), (1, (Blk.c (AV.arr rc 2 (fun (j : Nat) => (if (j < (List.length l)) then (W.prA (W.pAt l j)) else (AV.arr 2 1 (fun (j1 : Nat) => (AV.v (List.getD (sp j) j1 (Value.tuple (List.toArray [])))))))))))] ∧
    ((I64 (((i + 1) : Nat) : Int)) ∧
    ((((0 : Int) ≤ (((i + 1) : Nat) : Int)) ∧ (((((i + 1) : Nat) : Int) ≤ ((((List.length l) + 1) : Nat) : Int)) ∧ (((((List.length l) + 1) : Nat) : Int) ≤ ((rc : Nat) : Int)))) ∧
    ((((0 : Int) ≤ ((i : Nat) : Int)) ∧ ((((i : Nat) : Int) ≤ ((((List.length l) + 1) : Nat) : Int)) ∧ (((((List.length l) + 1) : Nat) : Int) ≤ ((rc : Nat) : Int)))) ∧
    ((∀ (i1 : Nat), ((i1 < (Min.min (((List.length l) + 1) - i) (((List.length l) + 1) - (i + 1)))) → (shp (if (((0 + (i + 1)) + i1) < (List.length l)) then (W.prA (W.pAt l ((0 + (i + 1)) + i1))) else (AV.arr 2 1 (fun (j : Nat) => (AV.v (List.getD (sp ((0 + (i + 1)) + i1)) j (Value.tuple (List.toArray []))))))) (if (((0 + i) + i1) < (List.length l)) then (W.prA (W.pAt l ((0 + i) + i1))) else (AV.arr 2 1 (fun (j : Nat) => (AV.v (List.getD (sp ((0 + i) + i1)) j (Value.tuple (List.toArray [])))))))))) ∧
    ((((0 : Int) ≤ ((i : Nat) : Int)) ∧ ((((i : Nat) : Int) ≤ ((((List.length l) + 1) : Nat) : Int)) ∧ (((((List.length l) + 1) : Nat) : Int) ≤ ((rc : Nat) : Int)))) ∧
    ((∀ (i1 : Nat), ((i1 < (Min.min 1 (((List.length l) + 1) - i))) → (shp (lay (0 + (i + 1)) (Min.min (((List.length l) + 1) - i) (((List.length l) + 1) - (i + 1))) (fun (j : Nat) => (if (j < (List.length l)) then (W.prA (W.pAt l j)) else (AV.arr 2 1 (fun (j1 : Nat) => (AV.v (List.getD (sp j) j1 (Value.tuple (List.toArray [])))))))) (fun (i2 : Nat) => (if (((0 + i) + i2) < (List.length l)) then (W.prA (W.pAt l ((0 + i) + i2))) else (AV.arr 2 1 (fun (j : Nat) => (AV.v (List.getD (sp ((0 + i) + i2)) j (Value.tuple (List.toArray [])))))))) ((0 + i) + i1)) (W.prA x)))) ∧
    (Φ Ex.ret (St.mk [(0, (AV.sl 0 [] 0 ((List.length l) + 1) rc true 2)), (1, (AV.i ((i : Nat) : Int))), (2, (AV.sl 1 [] 0 1 1 true 2)), (6, (AV.sl 0 [] 0 ((List.length l) + 1) rc true 2)), (7, (AV.i (1 : Int))), (8, (AV.i (((List.length l) : Nat) : Int))), (16, (AV.v (Value.bool false))), (22, (AV.v (Value.bool false))), (31, (AV.v (Value.bool false))), (68, (AV.v (Value.bool true)))] [(0, (Blk.c (AV.arr rc 2 (lay (0 + i) (Min.min 1 (((List.length l) + 1) - i)) (lay (0 + (i + 1)) (Min.min (((List.length l) + 1) - i) (((List.length l) + 1) - (i + 1))) (fun (j : Nat) => (if (j < (List.length l)) then (W.prA (W.pAt l j)) else (AV.arr 2 1 (fun (j1 : Nat) => (AV.v (List.getD (sp j) j1 (Value.tuple (List.toArray [])))))))) (fun (i1 : Nat) => (if (((0 + i) + i1) < (List.length l)) then (W.prA (W.pAt l ((0 + i) + i1))) else (AV.arr 2 1 (fun (j : Nat) => (AV.v (List.getD (sp ((0 + i) + i1)) j (Value.tuple (List.toArray []))))))))) (fun (i1 : Nat) => (W.prA x)))))), (1, (Blk.c (AV.arr 1 2 (fun (x1 : Nat) => (W.prA x)))))] [0, 1]))))))))))))))))))))) := by kernel_rfl
theorem two_id {b b1 : Blk} (id : Nat) (h : look [(0, b), (1, b1)] id ≠ none) : id < 2 := by
  simp only [look] at h
  split at h
  · rename_i e; have := beq_iff.1 e; omega
  · split at h
    · rename_i e; have := beq_iff.1 e; omega
    · exact absurd rfl h
/-- A row of one's own under a new name, behind two that were handed in. -/
theorem post_row2 {C : Ctx} {N : Nat} {S : St} {t id n n' c c' m m' e : Nat} {ex : Bool} {g g' : Nat → AV} (h : look S.tm t = some (.sl id [] 0 n c ex e)) (hb : look S.hp id = some (.c (.arr m e g))) (hn : n = n') (h1 : n' ≤ c') (h2 : c' ≤ c) (hm : m = m') (hg : ∀ i, i < m → g i = g' i)
    (hno : namesOK [(0, 0), (1, 1), (id, 2)] 2 S.seen [0, 1, 2] [(2, Blk.c (AV.arr m' e g'))] = true := by rfl) (hid : look [(0, 0), (1, 1), (id, 2)] id = some 2 := by rfl) : FunPost C N 2 [.tmp t] (.sl 2 [] 0 n' c' false e) [(2, .c (.arr m' e g'))] .ret S :=
  funPost_of (r' := .sl 2 [] 0 n' c' false e) (S2 := { tm := [(t, .sl 2 [] 0 n' c' false e)], hp := [(2, .c (.arr m' e g'))], seen := [0, 1, 2] }) (by simp) (ent_of [(0, 0), (1, 1), (id, 2)] hno (tm_cons h (sm_sl hid hn (by omega) h2 (by simp)) tm_nil) (hp_cons rfl hb (sm_arr' hm hg) hp_nil)) (by simp [resAV, resAll, resOne, look, Nat.beq_refl])
    (.inr ⟨rfl, rfl, rfl, rfl, h1, Nat.le_refl _, by simp, rfl⟩) fun _ _ h => h
/-- .., or in the place of the first. -/
theorem post_row20 {C : Ctx} {N : Nat} {S : St} {t n n' c c' m m' e : Nat} {ex : Bool} {g g' : Nat → AV} (h : look S.tm t = some (.sl 0 [] 0 n c ex e)) (hb : look S.hp 0 = some (.c (.arr m e g))) (hn : n = n') (h1 : n' ≤ c') (h2 : c' ≤ c) (hm : m = m') (hg : ∀ i, i < m → g i = g' i)
    (hno : namesOK [(0, 0), (1, 1)] 2 S.seen [0, 1] [(0, Blk.c (AV.arr m' e g'))] = true := by rfl) : FunPost C N 2 [.tmp t] (.sl 0 [] 0 n' c' false e) [(0, .c (.arr m' e g'))] .ret S :=
  funPost_of (r' := .sl 0 [] 0 n' c' false e) (S2 := { tm := [(t, .sl 0 [] 0 n' c' false e)], hp := [(0, .c (.arr m' e g'))], seen := [0, 1] }) (by simp) (ent_of [(0, 0), (1, 1)] hno (tm_cons h (sm_sl rfl hn (by omega) h2 (by simp)) tm_nil) (hp_cons rfl hb (sm_arr' hm hg) hp_nil)) (by simp [resAV, resAll, resOne, look, Nat.beq_refl])
    (.inr ⟨rfl, rfl, rfl, rfl, h1, Nat.le_refl _, by simp, rfl⟩) fun _ _ h => h
theorem ins_grow {n i k m : Nat} (g : Nat → AV) (z x : AV) (hi : i < n) (hk : k < n + 1) (hm : m = n + 1 - i) :
    lay (0 + (i + 1)) (min (n - i) (i + m - (i + 1))) (lay (0 + i) (min 1 (i + m - i)) (cat i (fun j => g (0 + j)) (fun _ => z)) (fun _ => x)) (fun j => g (0 + i + j)) k = insF i x g k := by
  unfold lay cat insF
  by_cases h1 : k < i
  · rw [if_pos (by omega), if_pos (by omega), if_pos h1, if_pos h1]
    show g (0 + k) = _
    rw [Nat.zero_add]
  · by_cases h2 : k = i
    · rw [if_pos (by omega), if_neg (by omega), if_pos (by omega), if_neg h1, if_pos h2]
    · rw [if_neg (by omega), if_pos (by omega), if_neg h1, if_neg h2]
      show g (0 + i + (k - (0 + (i + 1)))) = _
      rw [show 0 + i + (k - (0 + (i + 1))) = k - 1 by omega]
theorem ins_room {n i k : Nat} (g : Nat → AV) (x : AV) (hi : i < n) (hk : k < n + 1) :
    lay (0 + i) (min 1 (n + 1 - i)) (lay (0 + (i + 1)) (min (n + 1 - i) (n + 1 - (i + 1))) g (fun j => g (0 + i + j))) (fun _ => x) k = insF i x g k := by
  unfold lay insF
  by_cases h1 : k < i
  · rw [if_pos (by omega), if_pos (by omega), if_pos h1]
  · by_cases h2 : k = i
    · rw [if_neg (by omega), if_pos (by omega), if_neg h1, if_pos h2]
    · rw [if_neg (by omega), if_neg (by omega), if_neg (by omega), if_pos (by omega), if_neg h1, if_neg h2]
      show g (0 + i + (k - (0 + (i + 1)))) = _
      rw [show 0 + i + (k - (0 + (i + 1))) = k - 1 by omega]
theorem ins_cut {n i k : Nat} (f s : Nat → AV) (x : AV) (hi : i < n) (hk : k < n + 1) : insF i x (fun j => if j < n then f j else s j) k = insF i x f k := by
  unfold insF
  by_cases h1 : k < i
  · rw [if_pos h1, if_pos h1]; show (if k < n then _ else _) = _; rw [if_pos (by omega)]
  · by_cases h2 : k = i
    · rw [if_neg h1, if_pos h2, if_neg h1, if_pos h2]
    · rw [if_neg h1, if_neg h2, if_neg h1, if_neg h2]; show (if k - 1 < n then _ else _) = _; rw [if_pos (by omega)]
theorem shp_ite {c : Prop} [Decidable c] {x y z : AV} (h1 : shp x z) (h2 : shp y z) : shp (if c then x else y) z := by split <;> assumption
theorem shp_ite2 {c : Prop} [Decidable c] {x y z : AV} (h1 : shp z x) (h2 : shp z y) : shp z (if c then x else y) := by split <;> assumption
theorem shp_cat {n : Nat} {f g : Nat → AV} {z : AV} {k : Nat} (hf : shp (f k) z) (hg : shp (g (k - n)) z) : shp (cat n f g k) z := by unfold cat; split <;> assumption
theorem ins_end {n k : Nat} (g : Nat → AV) (x : AV) (hk : k < n + 1) : cat n (fun j => g (0 + j)) (fun _ => x) k = insF n x g k := by
  unfold cat insF
  by_cases h1 : k < n
  · rw [if_pos h1, if_pos h1]; show g (0 + k) = _; rw [Nat.zero_add]
  · rw [if_neg h1, if_neg h1, if_pos (by omega)]
theorem rep_cells {w : World} {A : Nat → Prop} {ρ : Ren} {e : Nat} {xs : List Value} (hl : xs.length = e) (hn : ∀ z, z ∈ xs → nota z = true) : Rep w A ρ (.arr e 1 fun j => .v (xs.getD j undef)) xs := by
  have hg : ∀ j, j < e → xs[j]? = some (xs.getD j undef) := fun j hj => by
    rw [List.getD_eq_getElem?_getD, List.getElem?_eq_getElem (by omega)]; rfl
  refine .arr (fun j => [xs.getD j undef]) (fun _ _ => rfl) (fun j hj => .v (hn _ (List.mem_of_getElem? (hg j hj)))) ?_
  apply List.ext_getElem?
  intro j
  by_cases hj : j < e
  · obtain ⟨y1, y2, y3⟩ := flat_get (n := e) (e := 1) (g := fun j => [xs.getD j undef]) (fun _ _ => rfl) (k := j) (by omega)
    rw [y1, hg j hj, Nat.div_one, Nat.mod_one]; rfl
  · rw [List.getElem?_eq_none (by omega), List.getElem?_eq_none (by rw [flat_len (e := 1) (fun _ _ => rfl)]; omega)]
set_option maxRecDepth 100000 in
theorem ovl_fun {n c c' o n' : Nat} {ex ex' : Bool} {f g : Nat → AV} {m m' : Nat} : Fun C P 58 [.sl 0 [] 0 n c ex 2, .sl 1 [] o n' c' ex' 2] [(0, .c (.arr m 2 f)), (1, .c (.arr m' 2 g))] (.v (.bool false)) [(0, .c (.arr m 2 f)), (1, .c (.arr m' 2 g))] := by
  have hz : ∀ w, (Go.sizeOf 32).run P w = .ok 2 w := fun w => by rw [run_sizeOf ctx (t := 32) (by kernel_rfl)]; kernel_rfl
  exact fun_ovl (fn := Proofs.Try.f58) (tS := 28) (tR := 4) (et := 32) Proofs.Try.func58 (by kernel_rfl) (by kernel_rfl) (by kernel_rfl) (by kernel_rfl) (by kernel_rfl) 2 hz rfl (by decide)
set_option maxRecDepth 100000 in
theorem insP_fun (l : List PI) (x : PI) (i : Nat) (hi : i ≤ l.length) (hn : l.length < 2 ^ 40) : Fun C P F_insP [.sl 0 [] 0 l.length l.length false 2, i64 i, .sl 1 [] 0 1 1 true 2] [(0, .c (.arr l.length 2 (fun j => prA (pAt l j)))), (1, .c (.arr 1 2 (fun _ => prA x)))]
    (.sl 2 [] 0 (l.length + 1) (l.length + 1) false 2) [(2, .c (.arr (l.length + 1) 2 (insF i (prA x) fun j => prA (pAt l j))))] := by
  by_cases he : i = l.length
  · subst he
    refine in_insP (W := w_insP) rfl 2 (by simp) rfl two_id ?_
    refine of_eq (insP_AE l x 2 _) ⟨(by first | omega | decide | (unfold I64; omega)), fun h => (absurd h (by decide)), fun _ => ⟨fun _ => ⟨(by first | omega | decide | (unfold I64; omega)), post_row2 rfl rfl rfl (Nat.le_refl _) (Nat.le_refl _) rfl fun k hk => ?_⟩, fun h => by simp at h⟩⟩
    exact ins_end (fun j => prA (pAt l j)) (prA x) hk
  · have hlt : i < l.length := by omega
    refine fun_caps mkP (fun w A xs h1 h2 => rep_cells h1 h2) rfl rfl ⟨_, _, _, _, _, _, rfl⟩ fun rc sp hrc hsl hsp => ?_
    by_cases hroom : l.length + 1 ≤ rc
    · let G : Nat → AV := fun j => if j < l.length then prA (pAt l j) else mkP (sp j)
      refine ⟨0, rc, lay (0 + i) (min 1 (l.length + 1 - i)) (lay (0 + (i + 1)) (min (l.length + 1 - i) (l.length + 1 - (i + 1))) G (fun j => G (0 + i + j))) (fun _ => prA x), hroom, fun k hk => (ins_room G (prA x) hlt hk).trans (ins_cut _ _ _ hlt hk), ?_⟩
      refine in_insP (W := w_insP) rfl 2 (by simp) rfl two_id ?_
      refine of_eq (insP_AX l x rc i sp 2 _) ⟨(by first | omega | decide | (unfold I64; omega)), fun h => (absurd h (by decide)), fun _ => ⟨fun h => by simp at h; omega, fun _ => ⟨(by first | omega | decide | (unfold I64; omega)), fun h => by simp at h; omega, fun _ => ?_⟩⟩⟩
      have r : ∀ {q q' : Nat → Value}, shp (.arr 2 1 fun j => .v (q j)) (.arr 2 1 fun j => .v (q' j)) := fun {q q'} => ⟨rfl, rfl, fun _ _ => ⟨rfl, rfl⟩⟩
      refine ⟨(by first | omega | decide | (unfold I64; omega)), (by first | omega | decide | (unfold I64; omega)), (by first | omega | decide | (unfold I64; omega)), (by first | omega | decide | (unfold I64; omega)), ovl_fun, (by first | omega | decide | (unfold I64; omega)), (by first | omega | decide | (unfold I64; omega)), (by first | omega | decide | (unfold I64; omega)), fun _ _ => shp_ite2 (shp_ite r r) (shp_ite r r), (by first | omega | decide | (unfold I64; omega)), fun _ _ => shp_lay (shp_ite r r) (shp_ite r r), ?_⟩
      exact post_row20 rfl rfl rfl (Nat.le_refl _) hroom rfl fun k hk => rfl
    · refine ⟨2, l.length + 1, insF i (prA x) (fun j => if j < l.length then prA (pAt l j) else mkP (sp j)), Nat.le_refl _, fun k hk => ins_cut _ _ _ hlt hk, ?_⟩
      refine in_insP (W := w_insP) rfl 2 (by simp) rfl two_id ?_
      have r : ∀ {q q' : Nat → Value}, shp (.arr 2 1 fun j => .v (q j)) (.arr 2 1 fun j => .v (q' j)) := fun {q q'} => ⟨rfl, rfl, fun _ _ => ⟨rfl, rfl⟩⟩
      refine of_eq (insP_AX l x rc i sp 2 _) ⟨(by first | omega | decide | (unfold I64; omega)), fun h => (absurd h (by decide)), fun _ => ⟨fun h => by simp at h; omega, fun _ => ⟨(by first | omega | decide | (unfold I64; omega)), fun _ => ?_, fun h => by simp at h; omega⟩⟩⟩
      refine ⟨(by first | omega | decide | (unfold I64; omega)), (by first | omega | decide | (unfold I64; omega)), (by first | omega | decide | (unfold I64; omega)), (by first | omega | decide | (unfold I64; omega)), (by first | omega | decide | (unfold I64; omega)), (by first | omega | decide | (unfold I64; omega)), (by first | omega | decide | (unfold I64; omega)), fun _ _ => shp_cat (shp_ite r r) r, (by first | omega | decide | (unfold I64; omega)), (by first | omega | decide | (unfold I64; omega)), (by first | omega | decide | (unfold I64; omega)), fun _ _ => shp_ite2 (shp_lay (shp_cat (shp_ite r r) r) r) (shp_lay (shp_cat (shp_ite r r) r) r), ?_⟩
      refine post_row2 rfl rfl (show i + (((l.length + 1 : Nat) : Int) - (i : Int)).toNat = l.length + 1 by omega) (Nat.le_refl _) (show l.length + 1 ≤ i + (((l.length + 1 : Nat) : Int) - (i : Int)).toNat by omega) (show i + (((l.length + 1 : Nat) : Int) - (i : Int)).toNat = l.length + 1 by omega) fun k hk => ?_
      rw [prA0]
      exact ins_grow (fun j => if j < l.length then prA (pAt l j) else mkP (sp j)) (prA (0, 0)) (prA x) hlt (show k < l.length + 1 by omega) (show (((l.length + 1 : Nat) : Int) - (i : Int)).toNat = l.length + 1 - i by omega)
end Go.Bu.W

namespace Go.Bu.W
def toN : AV → Net
  | .st [.dat n _ _ f, .dat m _ _ g, c] => ⟨toKL n f, toPL m g, asI c⟩
  | _ => ⟨[], [], 0⟩
abbrev cK (id : Int) : Pk → Int := fun y => cmpI y.1 id
abbrev cP (x : PI) : PI → Int := fun y => ordP y x
def reachN (n : Net) (a b : Int) : Bool := !(bsB (cP (ofI a b)) n.cuts)
def findB (n : Net) (id : Int) : Bool := bsB (cK id) n.fly
def findI (n : Net) (id : Int) : Nat := bsI (cK id) n.fly
def addB (n : Net) : Bool := decide (n.fly.length < 200) && decide (n.next < 1000000000)
def addN (n : Net) (f t : Int) : Net := if addB n then ⟨n.fly ++ [(n.next, f, t)], n.cuts, n.next + 1⟩ else n
def sendE (n : Net) (f t : Int) : Int := if partsB f t then (if addB n then 0 else 2) else 1
def sendN (n : Net) (f t : Int) : Net := if sendE n f t = 0 then addN n f t else n
def sendI (n : Net) (f t : Int) : Int := if sendE n f t = 0 then n.next else 0
def loseN (n : Net) (id : Int) : Net := if findB n id then ⟨n.fly.eraseIdx (findI n id), n.cuts, n.next⟩ else n
def loseE (n : Net) (id : Int) : Int := if findB n id then 0 else 90
def pkN (n : Net) (id : Int) : Pk := kAt n.fly (findI n id)
def takeE (n : Net) (id : Int) : Int := if findB n id then (if reachN n (pkN n id).2.1 (pkN n id).2.2 then 0 else 320) else 90
def takeN (n : Net) (id : Int) : Net := if takeE n id = 0 then loseN n id else n
def takeP (n : Net) (id : Int) : Pk := if takeE n id = 0 then pkN n id else (0, 0, 0)
def dblE (n : Net) (id : Int) : Int := if findB n id then (if addB n then 0 else 2) else 90
def dblN (n : Net) (id : Int) : Net := if dblE n id = 0 then addN n (pkN n id).2.1 (pkN n id).2.2 else n
def sevE (n : Net) (a b : Int) : Int := if partsB a b then (if reachN n a b then (if n.cuts.length < 200 then 0 else 2) else 0) else 1
def sevN (n : Net) (a b : Int) : Net := if partsB a b && reachN n a b && decide (n.cuts.length < 200) then ⟨n.fly, n.cuts.insertIdx (bsI (cP (ofI a b)) n.cuts) (ofI a b), n.next⟩ else n
def healE (a b : Int) : Int := if partsB a b then 0 else 1
def healN (n : Net) (a b : Int) : Net := if partsB a b then ⟨n.fly, filtL n.cuts (ofI a b), n.next⟩ else n
def crF1 (g : Nat → Net → Int → Option (AV × List (Nat × Blk))) : List AV → Option (AV × List (Nat × Blk))
  | [x, .v (.int _ a)] => g 0 (toN x) a
  | _ => none
def crF2 (g : Net → Int → Int → Option (AV × List (Nat × Blk))) : List AV → Option (AV × List (Nat × Blk))
  | [x, .v (.int _ a), .v (.int _ b)] => g (toN x) a b
  | _ => none
abbrev netD (n : Net) : AV := netA false false n
def crN5 (g : Nat) (args : List AV) (H : List (Nat × Blk)) : Option (AV × List (Nat × Blk)) :=
  sel (Nat.beq g F_find) (crF1 (fun _ n id => some (.tup [.i (if findB n id then (findI n id : Nat) else 0), .i (if findB n id then 0 else 90)], [])) args) <|
  sel (Nat.beq g F_reach) (crF2 (fun n a b => some (.sb (reachN n a b), [])) args) <|
  sel (Nat.beq g F_add) (crF2 (fun n a b => some (.tup [netD (addN n a b), .i (if addB n then 0 else 2)], [])) args) <|
  sel (Nat.beq g F_send) (crF2 (fun n a b => some (.tup [netD (sendN n a b), .i (sendI n a b), .i (sendE n a b)], [])) args) <|
  sel (Nat.beq g F_lose) (crF1 (fun _ n id => some (.tup [netD (loseN n id), .i (loseE n id)], [])) args) <|
  sel (Nat.beq g F_take) (crF1 (fun _ n id => some (.tup [netD (takeN n id), pkA (takeP n id), .i (takeE n id)], [])) args) <|
  sel (Nat.beq g F_double) (crF1 (fun _ n id => some (.tup [netD (dblN n id), .i (dblE n id)], [])) args) <|
  sel (Nat.beq g F_sever) (crF2 (fun n a b => some (.tup [netD (sevN n a b), .i (sevE n a b)], [])) args) <|
  sel (Nat.beq g F_heal) (crF2 (fun n a b => some (.tup [netD (healN n a b), .i (healE a b)], [])) args) <|
  crN4 g args H
def wayT (keep : List Nat) (nt : Nat) (cuts : List Nat) : Way := ⟨crN5, byrefI, keep, [], nt, cuts⟩
def w_find : Way := wayT [0, 1, 2, 4, 5, 6, 7, 16] 18 []
def w_reach : Way := wayT [0, 1, 2, 3, 6, 8] 20 []
def w_add : Way := wayT [0, 1, 2, 3, 6, 7, 16] 34 []
def w_send : Way := wayT [0, 1, 2, 3, 6, 7, 8, 9, 10, 14, 24] 30 []
def w_lose : Way := wayT [0, 1, 2, 4, 5, 6, 7, 15] 27 []
def w_take : Way := wayT [0, 1, 2, 4, 5, 6, 7, 8, 9, 17, 32] 43 []
def w_double : Way := wayT [0, 1, 2, 4, 5, 6, 7, 15] 34 []
def w_sever : Way := wayT [0, 1, 2, 3, 6, 7, 8, 9, 13, 24, 27] 44 []
def w_heal : Way := wayT [0, 1, 2, 3, 4, 5, 6, 7, 11] 20 [3]
def S_heal3 (n : Net) (a b : Int) : St := { tm := [(3, .ptr 3 []), (4, .pd (.i a)), (5, .pd (.i b)), (6, .ptr 6 [])], hp := [(3, .c (netD n)), (6, .c (.st [.dat 0 true 0 (fun _ => .v undef), .dat 0 true 0 (fun _ => .v undef), .i 0]))], seen := [3, 6] }

theorem find_A (n : Net) (id : Int) (K : Nat) (Φ : Ex → St → Prop) :
  (Holds C P 18 [] K Φ (vc C w_find b_find [] (start [netD n, .i id] []) lf)) =
  (Fun W.C W.P 55 [(W.dK false (W.Net.fly n)), (AV.i id), (AV.fn (Fn.func 56) [])] [] (AV.tup [(AV.i (((W.bsI (fun (y : Pk) => (W.cmpI (Prod.fst y) id)) (W.toKL (List.length (W.Net.fly n)) (fun (i : Nat) => (W.pkA (W.kAt (W.Net.fly n) i))))) : Nat) : Int)), (AV.sb (W.bsB (fun (y : Pk) => (W.cmpI (Prod.fst y) id)) (W.toKL (List.length (W.Net.fly n)) (fun (i : Nat) => (W.pkA (W.kAt (W.Net.fly n) i))))))]) [] ∧
 (((! (W.bsB (fun (y : Pk) => (W.cmpI (Prod.fst y) id)) (W.toKL (List.length (W.Net.fly n)) (fun (i : Nat) => (W.pkA (W.kAt (W.Net.fly n) i)))))) = true →
 (Φ Ex.ret (St.mk [(0, (W.netA false false n)), (1, (AV.i id)), (2, (AV.ptr 2 [])), (4, (AV.i (0 : Int))), (5, (AV.i (90 : Int))), (6, (AV.i (((W.bsI (fun (y : Pk) => (W.cmpI (Prod.fst y) id)) (W.toKL (List.length (W.Net.fly n)) (fun (i : Nat) => (W.pkA (W.kAt (W.Net.fly n) i))))) : Nat) : Int))), (7, (AV.sb (W.bsB (fun (y : Pk) => (W.cmpI (Prod.fst y) id)) (W.toKL (List.length (W.Net.fly n)) (fun (i : Nat) => (W.pkA (W.kAt (W.Net.fly n) i))))))), (16, (AV.v (Value.bool true)))] [(2, (Blk.c (W.netA false false n)))] [2]))) ∧
 ((! (W.bsB (fun (y : Pk) => (W.cmpI (Prod.fst y) id)) (W.toKL (List.length (W.Net.fly n)) (fun (i : Nat) => (W.pkA (W.kAt (W.Net.fly n) i)))))) = false →
 (Φ Ex.ret (St.mk [(0, (W.netA false false n)), (1, (AV.i id)), (2, (AV.ptr 2 [])), (4, (AV.i (((W.bsI (fun (y : Pk) => (W.cmpI (Prod.fst y) id)) (W.toKL (List.length (W.Net.fly n)) (fun (i : Nat) => (W.pkA (W.kAt (W.Net.fly n) i))))) : Nat) : Int))), (5, (AV.i (0 : Int))), (6, (AV.i (((W.bsI (fun (y : Pk) => (W.cmpI (Prod.fst y) id)) (W.toKL (List.length (W.Net.fly n)) (fun (i : Nat) => (W.pkA (W.kAt (W.Net.fly n) i))))) : Nat) : Int))), (7, (AV.sb (W.bsB (fun (y : Pk) => (W.cmpI (Prod.fst y) id)) (W.toKL (List.length (W.Net.fly n)) (fun (i : Nat) => (W.pkA (W.kAt (W.Net.fly n) i))))))), (16, (AV.v (Value.bool false)))] [(2, (Blk.c (W.netA false false n)))] [2]))))) := by kernel_rfl
theorem reach_A (n : Net) (a b : Int) (K : Nat) (Φ : Ex → St → Prop) :
  (Holds C P 20 [] K Φ (vc C w_reach b_reach [] (start [netD n, .i a, .i b] []) lf)) =
  (Fun W.C W.P 35 [(AV.i a), (AV.i b)] [] (W.prA ((Min.min a b), (Max.max a b))) [] ∧
 ((∀ (i : Nat), ((i < 2) → True)) ∧
 (Fun W.C W.P 34 [(W.dP false (W.Net.cuts n)), (W.prA ((Min.min a b), (Max.max a b))), (AV.fn (Fn.func 36) [])] [] (AV.tup [(AV.i (((W.bsI (fun (y : PI) => (W.ordP y ((W.two (Prod.fst ((Min.min a b), (Max.max a b))) (Prod.snd ((Min.min a b), (Max.max a b))) 0), (W.two (Prod.fst ((Min.min a b), (Max.max a b))) (Prod.snd ((Min.min a b), (Max.max a b))) 1)))) (W.toPL (List.length (W.Net.cuts n)) (fun (i : Nat) => (W.prA (W.pAt (W.Net.cuts n) i))))) : Nat) : Int)), (AV.sb (W.bsB (fun (y : PI) => (W.ordP y ((W.two (Prod.fst ((Min.min a b), (Max.max a b))) (Prod.snd ((Min.min a b), (Max.max a b))) 0), (W.two (Prod.fst ((Min.min a b), (Max.max a b))) (Prod.snd ((Min.min a b), (Max.max a b))) 1)))) (W.toPL (List.length (W.Net.cuts n)) (fun (i : Nat) => (W.prA (W.pAt (W.Net.cuts n) i))))))]) [] ∧
 (Φ Ex.ret (St.mk [(0, (W.netA false false n)), (1, (AV.i a)), (2, (AV.i b)), (3, (AV.ptr 3 [])), (6, (AV.sb (! (W.bsB (fun (y : PI) => (W.ordP y ((W.two (Prod.fst ((Min.min a b), (Max.max a b))) (Prod.snd ((Min.min a b), (Max.max a b))) 0), (W.two (Prod.fst ((Min.min a b), (Max.max a b))) (Prod.snd ((Min.min a b), (Max.max a b))) 1)))) (W.toPL (List.length (W.Net.cuts n)) (fun (i : Nat) => (W.prA (W.pAt (W.Net.cuts n) i)))))))), (8, (AV.sb (W.bsB (fun (y : PI) => (W.ordP y ((W.two (Prod.fst ((Min.min a b), (Max.max a b))) (Prod.snd ((Min.min a b), (Max.max a b))) 0), (W.two (Prod.fst ((Min.min a b), (Max.max a b))) (Prod.snd ((Min.min a b), (Max.max a b))) 1)))) (W.toPL (List.length (W.Net.cuts n)) (fun (i : Nat) => (W.prA (W.pAt (W.Net.cuts n) i)))))))] [(3, (Blk.c (W.netA false false n)))] [3]))))) := by kernel_rfl
theorem add_A (n : Net) (a b : Int) (K : Nat) (Φ : Ex → St → Prop) :
  (Holds C P 34 [] K Φ (vc C w_add b_add [] (start [netD n, .i a, .i b] []) lf)) =
  (((decide ((((List.length (W.Net.fly n)) : Nat) : Int) ≥ (200 : Int))) = true →
 ((W.ShK) ∧
  (Φ Ex.ret (St.mk [(0, (W.netA false false n)), (1, (AV.i a)), (2, (AV.i b)), (3, (AV.ptr 3 [])), (6, (AV.ptr 6 [])), (7, (AV.i (2 : Int))), (16, (AV.v (Value.bool true)))] [(3, (Blk.c (W.netA false false n))), (6, (Blk.c (W.netA false false n)))] [6, 3])))) ∧
 ((decide ((((List.length (W.Net.fly n)) : Nat) : Int) ≥ (200 : Int))) = false →
 (((decide ((W.Net.next n) ≥ (1000000000 : Int))) = true →
  ((W.ShK) ∧
   (Φ Ex.ret (St.mk [(0, (W.netA false false n)), (1, (AV.i a)), (2, (AV.i b)), (3, (AV.ptr 3 [])), (6, (AV.ptr 6 [])), (7, (AV.i (2 : Int))), (16, (AV.v (Value.bool true)))] [(3, (Blk.c (W.netA false false n))), (6, (Blk.c (W.netA false false n)))] [6, 3])))) ∧
  ((decide ((W.Net.next n) ≥ (1000000000 : Int))) = false →
  (Fun W.C W.P 50 [(W.dK false (W.Net.fly n))] [] (AV.sl 0 [] 0 (List.length (W.Net.fly n)) (List.length (W.Net.fly n)) false 3) [(0, (Blk.c (AV.arr (List.length (W.Net.fly n)) 3 (fun (i : Nat) => (W.pkA (W.kAt (W.Net.fly n) i))))))] ∧
   (((((List.length (W.Net.fly n)) + 1) * 24) ≤ 140737488355328) ∧
   ((I64 ((W.Net.next n) + (1 : Int))) ∧
   ((W.ShK) ∧
   (Φ Ex.ret (St.mk [(0, (W.netA false false n)), (1, (AV.i a)), (2, (AV.i b)), (3, (AV.ptr 3 [])), (6, (AV.ptr 6 [])), (7, (AV.i (0 : Int))), (16, (AV.v (Value.bool false)))] [(3, (Blk.c (AV.st [(AV.sl 27 [] 0 ((List.length (W.Net.fly n)) + 1) ((List.length (W.Net.fly n)) + 1) false 3), (W.dP false (W.Net.cuts n)), (AV.i ((W.Net.next n) + (1 : Int)))]))), (6, (Blk.c (AV.st [(AV.sl 27 [] 0 ((List.length (W.Net.fly n)) + 1) ((List.length (W.Net.fly n)) + 1) false 3), (W.dP false (W.Net.cuts n)), (AV.i ((W.Net.next n) + (1 : Int)))]))), (26, (Blk.c (AV.st [(AV.st [(AV.i (W.Net.next n)), (AV.i a), (AV.i b)])]))), (27, (Blk.c (AV.arr ((List.length (W.Net.fly n)) + 1) 3 (cat (List.length (W.Net.fly n)) (fun (i : Nat) => (W.pkA (W.kAt (W.Net.fly n) (0 + i)))) (fun (i : Nat) => (nthD [(AV.st [(AV.i (W.Net.next n)), (AV.i a), (AV.i b)])] (0 + i) (AV.v (Value.tuple (List.toArray [])))))))))] [27, 26, 20, 6, 3])))))))))) := by kernel_rfl
theorem send_A (n : Net) (a b : Int) (K : Nat) (Φ : Ex → St → Prop) :
  (Holds C P 30 [] K Φ (vc C w_send b_send [] (start [netD n, .i a, .i b] []) lf)) =
  (Fun W.C W.P 43 [(AV.i a), (AV.i b)] [] (AV.sb (W.partsB a b)) [] ∧
 (True ∧
 (((! (W.partsB a b)) = true →
 ((W.ShK) ∧
  (Φ Ex.ret (St.mk [(0, (W.netA false false n)), (1, (AV.i a)), (2, (AV.i b)), (3, (AV.ptr 3 [])), (6, (AV.ptr 6 [])), (7, (AV.i (0 : Int))), (8, (AV.i (1 : Int))), (14, (AV.v (Value.bool true)))] [(3, (Blk.c (W.netA false false n))), (6, (Blk.c (W.netA false false n)))] [6, 3])))) ∧
 ((! (W.partsB a b)) = false →
 (Fun W.C W.P 44 [(W.netA false false n), (AV.i a), (AV.i b)] [] (AV.tup [(W.netA false false (W.addN (W.toN (W.netA false false n)) a b)), (AV.i (if ((W.addB (W.toN (W.netA false false n))) = true) then (0 : Int) else (2 : Int)))]) [] ∧
  ((W.ShK) ∧
  ((((if ((W.addB (W.toN (W.netA false false n))) = true) then (0 : Int) else (2 : Int)) != (0 : Int)) = true →
  ((W.ShK) ∧
   (Φ Ex.ret (St.mk [(0, (W.netA false false n)), (1, (AV.i a)), (2, (AV.i b)), (3, (AV.ptr 3 [])), (6, (AV.ptr 6 [])), (7, (AV.i (0 : Int))), (8, (AV.i (if ((W.addB (W.toN (W.netA false false n))) = true) then (0 : Int) else (2 : Int)))), (9, (AV.ptr 9 [])), (10, (AV.i (if ((W.addB (W.toN (W.netA false false n))) = true) then (0 : Int) else (2 : Int)))), (14, (AV.v (Value.bool false))), (24, (AV.v (Value.bool true)))] [(3, (Blk.c (W.netA false false n))), (6, (Blk.c (W.netA false false n))), (9, (Blk.c (W.netA false false (W.addN (W.toN (W.netA false false n)) a b))))] [9, 6, 3])))) ∧
  (((if ((W.addB (W.toN (W.netA false false n))) = true) then (0 : Int) else (2 : Int)) != (0 : Int)) = false →
  ((W.ShK) ∧
   (Φ Ex.ret (St.mk [(0, (W.netA false false n)), (1, (AV.i a)), (2, (AV.i b)), (3, (AV.ptr 3 [])), (6, (AV.ptr 6 [])), (7, (AV.i (W.Net.next n))), (8, (AV.i (0 : Int))), (9, (AV.ptr 9 [])), (10, (AV.i (if ((W.addB (W.toN (W.netA false false n))) = true) then (0 : Int) else (2 : Int)))), (14, (AV.v (Value.bool false))), (24, (AV.v (Value.bool false)))] [(3, (Blk.c (W.netA false false n))), (6, (Blk.c (W.netA false false (W.addN (W.toN (W.netA false false n)) a b)))), (9, (Blk.c (W.netA false false (W.addN (W.toN (W.netA false false n)) a b))))] [9, 6, 3]))))))))))) := by kernel_rfl
theorem lose_A (n : Net) (id : Int) (K : Nat) (Φ : Ex → St → Prop) :
  (Holds C P 27 [] K Φ (vc C w_lose b_lose [] (start [netD n, .i id] []) lf)) =
  (Fun W.C W.P 46 [(W.netA false false n), (AV.i id)] [] (AV.tup [(AV.i (if ((W.findB (W.toN (W.netA false false n)) id) = true) then (((W.findI (W.toN (W.netA false false n)) id) : Nat) : Int) else (0 : Int))), (AV.i (if ((W.findB (W.toN (W.netA false false n)) id) = true) then (0 : Int) else (90 : Int)))]) [] ∧
 ((((if ((W.findB (W.toN (W.netA false false n)) id) = true) then (0 : Int) else (90 : Int)) != (0 : Int)) = true →
 ((W.ShK) ∧
  (Φ Ex.ret (St.mk [(0, (W.netA false false n)), (1, (AV.i id)), (2, (AV.ptr 2 [])), (4, (AV.ptr 4 [])), (5, (AV.i (if ((W.findB (W.toN (W.netA false false n)) id) = true) then (0 : Int) else (90 : Int)))), (6, (AV.i (if ((W.findB (W.toN (W.netA false false n)) id) = true) then (((W.findI (W.toN (W.netA false false n)) id) : Nat) : Int) else (0 : Int)))), (7, (AV.i (if ((W.findB (W.toN (W.netA false false n)) id) = true) then (0 : Int) else (90 : Int)))), (15, (AV.v (Value.bool true)))] [(2, (Blk.c (W.netA false false n))), (4, (Blk.c (W.netA false false n)))] [4, 2])))) ∧
 (((if ((W.findB (W.toN (W.netA false false n)) id) = true) then (0 : Int) else (90 : Int)) != (0 : Int)) = false →
 (Fun W.C W.P 50 [(W.dK false (W.Net.fly n))] [] (AV.sl 0 [] 0 (List.length (W.Net.fly n)) (List.length (W.Net.fly n)) false 3) [(0, (Blk.c (AV.arr (List.length (W.Net.fly n)) 3 (fun (i : Nat) => (W.pkA (W.kAt (W.Net.fly n) i))))))] ∧
  ((I64 ((if ((W.findB (W.toN (W.netA false false n)) id) = true) then (((W.findI (W.toN (W.netA false false n)) id) : Nat) : Int) else (0 : Int)) + (1 : Int))) ∧
  (Fun W.C W.P 49 [(AV.sl 0 [] 0 (List.length (W.Net.fly n)) (List.length (W.Net.fly n)) false 3), (AV.i (if ((W.findB (W.toN (W.netA false false n)) id) = true) then (((W.findI (W.toN (W.netA false false n)) id) : Nat) : Int) else (0 : Int))), (AV.i ((if ((W.findB (W.toN (W.netA false false n)) id) = true) then (((W.findI (W.toN (W.netA false false n)) id) : Nat) : Int) else (0 : Int)) + (1 : Int)))] [(0, (Blk.c (AV.arr (List.length (W.Net.fly n)) 3 (fun (i : Nat) => (W.pkA (W.kAt (W.Net.fly n) i))))))] (AV.sl 0 [] 0 ((List.length (W.Net.fly n)) - 1) (List.length (W.Net.fly n)) false 3) [(0, (Blk.c (AV.arr (List.length (W.Net.fly n)) 3 (W.delF (List.length (W.Net.fly n)) (Int.toNat (if ((W.findB (W.toN (W.netA false false n)) id) = true) then (((W.findI (W.toN (W.netA false false n)) id) : Nat) : Int) else (0 : Int))) (AV.st [(AV.i (0 : Int)), (AV.i (0 : Int)), (AV.i (0 : Int))]) (fun (i : Nat) => (W.pkA (W.kAt (W.Net.fly n) i)))))))] ∧
  ((W.ShK) ∧
  (Φ Ex.ret (St.mk [(0, (W.netA false false n)), (1, (AV.i id)), (2, (AV.ptr 2 [])), (4, (AV.ptr 4 [])), (5, (AV.i (0 : Int))), (6, (AV.i (if ((W.findB (W.toN (W.netA false false n)) id) = true) then (((W.findI (W.toN (W.netA false false n)) id) : Nat) : Int) else (0 : Int)))), (7, (AV.i (if ((W.findB (W.toN (W.netA false false n)) id) = true) then (0 : Int) else (90 : Int)))), (15, (AV.v (Value.bool false)))] [(2, (Blk.c (AV.st [(AV.sl 20 [] 0 ((List.length (W.Net.fly n)) - 1) (List.length (W.Net.fly n)) false 3), (W.dP false (W.Net.cuts n)), (AV.i (W.Net.next n))]))), (4, (Blk.c (AV.st [(AV.sl 20 [] 0 ((List.length (W.Net.fly n)) - 1) (List.length (W.Net.fly n)) false 3), (W.dP false (W.Net.cuts n)), (AV.i (W.Net.next n))]))), (20, (Blk.c (AV.arr (List.length (W.Net.fly n)) 3 (W.delF (List.length (W.Net.fly n)) (Int.toNat (if ((W.findB (W.toN (W.netA false false n)) id) = true) then (((W.findI (W.toN (W.netA false false n)) id) : Nat) : Int) else (0 : Int))) (AV.st [(AV.i (0 : Int)), (AV.i (0 : Int)), (AV.i (0 : Int))]) (fun (i : Nat) => (W.pkA (W.kAt (W.Net.fly n) i)))))))] [20, 4, 2]))))))))) := by kernel_rfl
theorem take_A (n : Net) (id : Int) (K : Nat) (Φ : Ex → St → Prop) :
  (Holds C P 43 [] K Φ (vc C w_take b_take [] (start [netD n, .i id] []) lf)) =
  (Fun W.C W.P 46 [(W.netA false false n), (AV.i id)] [] (AV.tup [(AV.i (if ((W.findB (W.toN (W.netA false false n)) id) = true) then (((W.findI (W.toN (W.netA false false n)) id) : Nat) : Int) else (0 : Int))), (AV.i (if ((W.findB (W.toN (W.netA false false n)) id) = true) then (0 : Int) else (90 : Int)))]) [] ∧
 ((((if ((W.findB (W.toN (W.netA false false n)) id) = true) then (0 : Int) else (90 : Int)) != (0 : Int)) = true →
 ((W.ShK) ∧
  ((W.ShK) ∧
  (Φ Ex.ret (St.mk [(0, (W.netA false false n)), (1, (AV.i id)), (2, (AV.ptr 2 [])), (4, (AV.ptr 4 [])), (5, (AV.ptr 5 [])), (6, (AV.i (if ((W.findB (W.toN (W.netA false false n)) id) = true) then (0 : Int) else (90 : Int)))), (7, (AV.i (if ((W.findB (W.toN (W.netA false false n)) id) = true) then (((W.findI (W.toN (W.netA false false n)) id) : Nat) : Int) else (0 : Int)))), (8, (AV.i (if ((W.findB (W.toN (W.netA false false n)) id) = true) then (0 : Int) else (90 : Int)))), (17, (AV.v (Value.bool true)))] [(2, (Blk.c (W.netA false false n))), (4, (Blk.c (W.netA false false n))), (5, (Blk.c (AV.st [(AV.i (0 : Int)), (AV.i (0 : Int)), (AV.i (0 : Int))])))] [5, 4, 2]))))) ∧
 (((if ((W.findB (W.toN (W.netA false false n)) id) = true) then (0 : Int) else (90 : Int)) != (0 : Int)) = false →
 ((((0 : Int) ≤ (if ((W.findB (W.toN (W.netA false false n)) id) = true) then (((W.findI (W.toN (W.netA false false n)) id) : Nat) : Int) else (0 : Int))) ∧ ((if ((W.findB (W.toN (W.netA false false n)) id) = true) then (((W.findI (W.toN (W.netA false false n)) id) : Nat) : Int) else (0 : Int)) < (((List.length (W.Net.fly n)) : Nat) : Int))) ∧
  ((W.ShK) ∧
  (Fun W.C W.P 19 [(W.netA false false n), (AV.i (Prod.fst (Prod.snd (W.kAt (W.Net.fly n) (Int.toNat (if ((W.findB (W.toN (W.netA false false n)) id) = true) then (((W.findI (W.toN (W.netA false false n)) id) : Nat) : Int) else (0 : Int))))))), (AV.i (Prod.snd (Prod.snd (W.kAt (W.Net.fly n) (Int.toNat (if ((W.findB (W.toN (W.netA false false n)) id) = true) then (((W.findI (W.toN (W.netA false false n)) id) : Nat) : Int) else (0 : Int)))))))] [] (AV.sb (W.reachN (W.toN (W.netA false false n)) (Prod.fst (Prod.snd (W.kAt (W.Net.fly n) (Int.toNat (if ((W.findB (W.toN (W.netA false false n)) id) = true) then (((W.findI (W.toN (W.netA false false n)) id) : Nat) : Int) else (0 : Int)))))) (Prod.snd (Prod.snd (W.kAt (W.Net.fly n) (Int.toNat (if ((W.findB (W.toN (W.netA false false n)) id) = true) then (((W.findI (W.toN (W.netA false false n)) id) : Nat) : Int) else (0 : Int)))))))) [] ∧
  (True ∧
  (((! (W.reachN (W.toN (W.netA false false n)) (Prod.fst (Prod.snd (W.kAt (W.Net.fly n) (Int.toNat (if ((W.findB (W.toN (W.netA false false n)) id) = true) then (((W.findI (W.toN (W.netA false false n)) id) : Nat) : Int) else (0 : Int)))))) (Prod.snd (Prod.snd (W.kAt (W.Net.fly n) (Int.toNat (if ((W.findB (W.toN (W.netA false false n)) id) = true) then (((W.findI (W.toN (W.netA false false n)) id) : Nat) : Int) else (0 : Int)))))))) = true →
  ((W.ShK) ∧
   ((W.ShK) ∧
   (Φ Ex.ret (St.mk [(0, (W.netA false false n)), (1, (AV.i id)), (2, (AV.ptr 2 [])), (4, (AV.ptr 4 [])), (5, (AV.ptr 5 [])), (6, (AV.i (320 : Int))), (7, (AV.i (if ((W.findB (W.toN (W.netA false false n)) id) = true) then (((W.findI (W.toN (W.netA false false n)) id) : Nat) : Int) else (0 : Int)))), (8, (AV.i (if ((W.findB (W.toN (W.netA false false n)) id) = true) then (0 : Int) else (90 : Int)))), (9, (AV.ptr 9 [])), (17, (AV.v (Value.bool false))), (32, (AV.v (Value.bool true)))] [(2, (Blk.c (W.netA false false n))), (4, (Blk.c (W.netA false false n))), (5, (Blk.c (AV.st [(AV.i (0 : Int)), (AV.i (0 : Int)), (AV.i (0 : Int))]))), (9, (Blk.c (W.pkA (W.kAt (W.Net.fly n) (Int.toNat (if ((W.findB (W.toN (W.netA false false n)) id) = true) then (((W.findI (W.toN (W.netA false false n)) id) : Nat) : Int) else (0 : Int)))))))] [9, 5, 4, 2]))))) ∧
  ((! (W.reachN (W.toN (W.netA false false n)) (Prod.fst (Prod.snd (W.kAt (W.Net.fly n) (Int.toNat (if ((W.findB (W.toN (W.netA false false n)) id) = true) then (((W.findI (W.toN (W.netA false false n)) id) : Nat) : Int) else (0 : Int)))))) (Prod.snd (Prod.snd (W.kAt (W.Net.fly n) (Int.toNat (if ((W.findB (W.toN (W.netA false false n)) id) = true) then (((W.findI (W.toN (W.netA false false n)) id) : Nat) : Int) else (0 : Int)))))))) = false →
  (Fun W.C W.P 38 [(W.netA false false n), (AV.i id)] [] (AV.tup [(W.netA false false (W.loseN (W.toN (W.netA false false n)) id)), (AV.i (W.loseE (W.toN (W.netA false false n)) id))]) [] ∧
   ((W.ShK) ∧
   ((W.ShK) ∧
   ((W.ShK) ∧
   (Φ Ex.ret (St.mk [(0, (W.netA false false n)), (1, (AV.i id)), (2, (AV.ptr 2 [])), (4, (AV.ptr 4 [])), (5, (AV.ptr 5 [])), (6, (AV.i (0 : Int))), (7, (AV.i (if ((W.findB (W.toN (W.netA false false n)) id) = true) then (((W.findI (W.toN (W.netA false false n)) id) : Nat) : Int) else (0 : Int)))), (8, (AV.i (if ((W.findB (W.toN (W.netA false false n)) id) = true) then (0 : Int) else (90 : Int)))), (9, (AV.ptr 9 [])), (17, (AV.v (Value.bool false))), (32, (AV.v (Value.bool false)))] [(2, (Blk.c (W.netA false false (W.loseN (W.toN (W.netA false false n)) id)))), (4, (Blk.c (W.netA false false (W.loseN (W.toN (W.netA false false n)) id)))), (5, (Blk.c (W.pkA (W.kAt (W.Net.fly n) (Int.toNat (if ((W.findB (W.toN (W.netA false false n)) id) = true) then (((W.findI (W.toN (W.netA false false n)) id) : Nat) : Int) else (0 : Int))))))), (9, (Blk.c (W.pkA (W.kAt (W.Net.fly n) (Int.toNat (if ((W.findB (W.toN (W.netA false false n)) id) = true) then (((W.findI (W.toN (W.netA false false n)) id) : Nat) : Int) else (0 : Int)))))))] [9, 5, 4, 2]))))))))))))))) := by kernel_rfl
theorem double_A (n : Net) (id : Int) (K : Nat) (Φ : Ex → St → Prop) :
  (Holds C P 34 [] K Φ (vc C w_double b_double [] (start [netD n, .i id] []) lf)) =
  (Fun W.C W.P 46 [(W.netA false false n), (AV.i id)] [] (AV.tup [(AV.i (if ((W.findB (W.toN (W.netA false false n)) id) = true) then (((W.findI (W.toN (W.netA false false n)) id) : Nat) : Int) else (0 : Int))), (AV.i (if ((W.findB (W.toN (W.netA false false n)) id) = true) then (0 : Int) else (90 : Int)))]) [] ∧
 ((((if ((W.findB (W.toN (W.netA false false n)) id) = true) then (0 : Int) else (90 : Int)) != (0 : Int)) = true →
 ((W.ShK) ∧
  (Φ Ex.ret (St.mk [(0, (W.netA false false n)), (1, (AV.i id)), (2, (AV.ptr 2 [])), (4, (AV.ptr 4 [])), (5, (AV.i (if ((W.findB (W.toN (W.netA false false n)) id) = true) then (0 : Int) else (90 : Int)))), (6, (AV.i (if ((W.findB (W.toN (W.netA false false n)) id) = true) then (((W.findI (W.toN (W.netA false false n)) id) : Nat) : Int) else (0 : Int)))), (7, (AV.i (if ((W.findB (W.toN (W.netA false false n)) id) = true) then (0 : Int) else (90 : Int)))), (15, (AV.v (Value.bool true)))] [(2, (Blk.c (W.netA false false n))), (4, (Blk.c (W.netA false false n)))] [4, 2])))) ∧
 (((if ((W.findB (W.toN (W.netA false false n)) id) = true) then (0 : Int) else (90 : Int)) != (0 : Int)) = false →
 ((((0 : Int) ≤ (if ((W.findB (W.toN (W.netA false false n)) id) = true) then (((W.findI (W.toN (W.netA false false n)) id) : Nat) : Int) else (0 : Int))) ∧ ((if ((W.findB (W.toN (W.netA false false n)) id) = true) then (((W.findI (W.toN (W.netA false false n)) id) : Nat) : Int) else (0 : Int)) < (((List.length (W.Net.fly n)) : Nat) : Int))) ∧
  ((((0 : Int) ≤ (if ((W.findB (W.toN (W.netA false false n)) id) = true) then (((W.findI (W.toN (W.netA false false n)) id) : Nat) : Int) else (0 : Int))) ∧ ((if ((W.findB (W.toN (W.netA false false n)) id) = true) then (((W.findI (W.toN (W.netA false false n)) id) : Nat) : Int) else (0 : Int)) < (((List.length (W.Net.fly n)) : Nat) : Int))) ∧
  (Fun W.C W.P 44 [(W.netA false false n), (AV.i (Prod.fst (Prod.snd (W.kAt (W.Net.fly n) (Int.toNat (if ((W.findB (W.toN (W.netA false false n)) id) = true) then (((W.findI (W.toN (W.netA false false n)) id) : Nat) : Int) else (0 : Int))))))), (AV.i (Prod.snd (Prod.snd (W.kAt (W.Net.fly n) (Int.toNat (if ((W.findB (W.toN (W.netA false false n)) id) = true) then (((W.findI (W.toN (W.netA false false n)) id) : Nat) : Int) else (0 : Int)))))))] [] (AV.tup [(W.netA false false (W.addN (W.toN (W.netA false false n)) (Prod.fst (Prod.snd (W.kAt (W.Net.fly n) (Int.toNat (if ((W.findB (W.toN (W.netA false false n)) id) = true) then (((W.findI (W.toN (W.netA false false n)) id) : Nat) : Int) else (0 : Int)))))) (Prod.snd (Prod.snd (W.kAt (W.Net.fly n) (Int.toNat (if ((W.findB (W.toN (W.netA false false n)) id) = true) then (((W.findI (W.toN (W.netA false false n)) id) : Nat) : Int) else (0 : Int)))))))), (AV.i (if ((W.addB (W.toN (W.netA false false n))) = true) then (0 : Int) else (2 : Int)))]) [] ∧
  ((W.ShK) ∧
  (Φ Ex.ret (St.mk [(0, (W.netA false false n)), (1, (AV.i id)), (2, (AV.ptr 2 [])), (4, (AV.ptr 4 [])), (5, (AV.i (if ((W.addB (W.toN (W.netA false false n))) = true) then (0 : Int) else (2 : Int)))), (6, (AV.i (if ((W.findB (W.toN (W.netA false false n)) id) = true) then (((W.findI (W.toN (W.netA false false n)) id) : Nat) : Int) else (0 : Int)))), (7, (AV.i (if ((W.findB (W.toN (W.netA false false n)) id) = true) then (0 : Int) else (90 : Int)))), (15, (AV.v (Value.bool false)))] [(2, (Blk.c (W.netA false false n))), (4, (Blk.c (W.netA false false (W.addN (W.toN (W.netA false false n)) (Prod.fst (Prod.snd (W.kAt (W.Net.fly n) (Int.toNat (if ((W.findB (W.toN (W.netA false false n)) id) = true) then (((W.findI (W.toN (W.netA false false n)) id) : Nat) : Int) else (0 : Int)))))) (Prod.snd (Prod.snd (W.kAt (W.Net.fly n) (Int.toNat (if ((W.findB (W.toN (W.netA false false n)) id) = true) then (((W.findI (W.toN (W.netA false false n)) id) : Nat) : Int) else (0 : Int))))))))))] [4, 2]))))))))) := by kernel_rfl
theorem sever_A (n : Net) (a b : Int) (K : Nat) (Φ : Ex → St → Prop) :
  (Holds C P 44 [] K Φ (vc C w_sever b_sever [] (start [netD n, .i a, .i b] []) lf)) =
  (Fun W.C W.P 43 [(AV.i a), (AV.i b)] [] (AV.sb (W.partsB a b)) [] ∧
 (True ∧
 (((! (W.partsB a b)) = true →
 ((W.ShK) ∧
  (Φ Ex.ret (St.mk [(0, (W.netA false false n)), (1, (AV.i a)), (2, (AV.i b)), (3, (AV.ptr 3 [])), (6, (AV.ptr 6 [])), (7, (AV.i (1 : Int))), (13, (AV.v (Value.bool true)))] [(3, (Blk.c (W.netA false false n))), (6, (Blk.c (W.netA false false n)))] [6, 3])))) ∧
 ((! (W.partsB a b)) = false →
 (Fun W.C W.P 35 [(AV.i a), (AV.i b)] [] (W.prA ((Min.min a b), (Max.max a b))) [] ∧
  ((∀ (i : Nat), ((i < 2) → True)) ∧
  (Fun W.C W.P 34 [(W.dP false (W.Net.cuts n)), (W.prA ((Min.min a b), (Max.max a b))), (AV.fn (Fn.func 36) [])] [] (AV.tup [(AV.i (((W.bsI (fun (y : PI) => (W.ordP y ((W.two (Prod.fst ((Min.min a b), (Max.max a b))) (Prod.snd ((Min.min a b), (Max.max a b))) 0), (W.two (Prod.fst ((Min.min a b), (Max.max a b))) (Prod.snd ((Min.min a b), (Max.max a b))) 1)))) (W.toPL (List.length (W.Net.cuts n)) (fun (i : Nat) => (W.prA (W.pAt (W.Net.cuts n) i))))) : Nat) : Int)), (AV.sb (W.bsB (fun (y : PI) => (W.ordP y ((W.two (Prod.fst ((Min.min a b), (Max.max a b))) (Prod.snd ((Min.min a b), (Max.max a b))) 0), (W.two (Prod.fst ((Min.min a b), (Max.max a b))) (Prod.snd ((Min.min a b), (Max.max a b))) 1)))) (W.toPL (List.length (W.Net.cuts n)) (fun (i : Nat) => (W.prA (W.pAt (W.Net.cuts n) i))))))]) [] ∧
  (((W.bsB (fun (y : PI) => (W.ordP y ((W.two (Prod.fst ((Min.min a b), (Max.max a b))) (Prod.snd ((Min.min a b), (Max.max a b))) 0), (W.two (Prod.fst ((Min.min a b), (Max.max a b))) (Prod.snd ((Min.min a b), (Max.max a b))) 1)))) (W.toPL (List.length (W.Net.cuts n)) (fun (i : Nat) => (W.prA (W.pAt (W.Net.cuts n) i))))) = true →
  ((W.ShK) ∧
   (Φ Ex.ret (St.mk [(0, (W.netA false false n)), (1, (AV.i a)), (2, (AV.i b)), (3, (AV.ptr 3 [])), (6, (AV.ptr 6 [])), (7, (AV.i (0 : Int))), (8, (AV.i (((W.bsI (fun (y : PI) => (W.ordP y ((W.two (Prod.fst ((Min.min a b), (Max.max a b))) (Prod.snd ((Min.min a b), (Max.max a b))) 0), (W.two (Prod.fst ((Min.min a b), (Max.max a b))) (Prod.snd ((Min.min a b), (Max.max a b))) 1)))) (W.toPL (List.length (W.Net.cuts n)) (fun (i : Nat) => (W.prA (W.pAt (W.Net.cuts n) i))))) : Nat) : Int))), (9, (AV.sb (W.bsB (fun (y : PI) => (W.ordP y ((W.two (Prod.fst ((Min.min a b), (Max.max a b))) (Prod.snd ((Min.min a b), (Max.max a b))) 0), (W.two (Prod.fst ((Min.min a b), (Max.max a b))) (Prod.snd ((Min.min a b), (Max.max a b))) 1)))) (W.toPL (List.length (W.Net.cuts n)) (fun (i : Nat) => (W.prA (W.pAt (W.Net.cuts n) i))))))), (13, (AV.v (Value.bool false))), (24, (AV.v (Value.bool true)))] [(3, (Blk.c (W.netA false false n))), (6, (Blk.c (W.netA false false n)))] [6, 3])))) ∧
  ((W.bsB (fun (y : PI) => (W.ordP y ((W.two (Prod.fst ((Min.min a b), (Max.max a b))) (Prod.snd ((Min.min a b), (Max.max a b))) 0), (W.two (Prod.fst ((Min.min a b), (Max.max a b))) (Prod.snd ((Min.min a b), (Max.max a b))) 1)))) (W.toPL (List.length (W.Net.cuts n)) (fun (i : Nat) => (W.prA (W.pAt (W.Net.cuts n) i))))) = false →
  (((decide ((((List.length (W.Net.cuts n)) : Nat) : Int) ≥ (200 : Int))) = true →
   ((W.ShK) ∧
    (Φ Ex.ret (St.mk [(0, (W.netA false false n)), (1, (AV.i a)), (2, (AV.i b)), (3, (AV.ptr 3 [])), (6, (AV.ptr 6 [])), (7, (AV.i (2 : Int))), (8, (AV.i (((W.bsI (fun (y : PI) => (W.ordP y ((W.two (Prod.fst ((Min.min a b), (Max.max a b))) (Prod.snd ((Min.min a b), (Max.max a b))) 0), (W.two (Prod.fst ((Min.min a b), (Max.max a b))) (Prod.snd ((Min.min a b), (Max.max a b))) 1)))) (W.toPL (List.length (W.Net.cuts n)) (fun (i : Nat) => (W.prA (W.pAt (W.Net.cuts n) i))))) : Nat) : Int))), (9, (AV.sb (W.bsB (fun (y : PI) => (W.ordP y ((W.two (Prod.fst ((Min.min a b), (Max.max a b))) (Prod.snd ((Min.min a b), (Max.max a b))) 0), (W.two (Prod.fst ((Min.min a b), (Max.max a b))) (Prod.snd ((Min.min a b), (Max.max a b))) 1)))) (W.toPL (List.length (W.Net.cuts n)) (fun (i : Nat) => (W.prA (W.pAt (W.Net.cuts n) i))))))), (13, (AV.v (Value.bool false))), (24, (AV.v (Value.bool false))), (27, (AV.v (Value.bool true)))] [(3, (Blk.c (W.netA false false n))), (6, (Blk.c (W.netA false false n)))] [6, 3])))) ∧
   ((decide ((((List.length (W.Net.cuts n)) : Nat) : Int) ≥ (200 : Int))) = false →
   (Fun W.C W.P 52 [(W.dP false (W.Net.cuts n))] [] (AV.sl 0 [] 0 (List.length (W.Net.cuts n)) (List.length (W.Net.cuts n)) false 2) [(0, (Blk.c (AV.arr (List.length (W.Net.cuts n)) 2 (fun (i : Nat) => (W.prA (W.pAt (W.Net.cuts n) i))))))] ∧
    (Fun W.C W.P 35 [(AV.i a), (AV.i b)] [] (W.prA ((Min.min a b), (Max.max a b))) [] ∧
    ((∀ (i : Nat), ((i < 2) → True)) ∧
    (Fun W.C W.P 51 [(AV.sl 0 [] 0 (List.length (W.Net.cuts n)) (List.length (W.Net.cuts n)) false 2), (AV.i (((W.bsI (fun (y : PI) => (W.ordP y ((W.two (Prod.fst ((Min.min a b), (Max.max a b))) (Prod.snd ((Min.min a b), (Max.max a b))) 0), (W.two (Prod.fst ((Min.min a b), (Max.max a b))) (Prod.snd ((Min.min a b), (Max.max a b))) 1)))) (W.toPL (List.length (W.Net.cuts n)) (fun (i : Nat) => (W.prA (W.pAt (W.Net.cuts n) i))))) : Nat) : Int)), (AV.sl 1 [] 0 1 1 true 2)] [(0, (Blk.c (AV.arr (List.length (W.Net.cuts n)) 2 (fun (i : Nat) => (W.prA (W.pAt (W.Net.cuts n) i)))))), (1, (Blk.c (AV.st [(W.prA ((Min.min a b), (Max.max a b)))])))] (AV.sl 2 [] 0 ((List.length (W.Net.cuts n)) + 1) ((List.length (W.Net.cuts n)) + 1) false 2) [(2, (Blk.c (AV.arr ((List.length (W.Net.cuts n)) + 1) 2 (W.insF (Int.toNat (((W.bsI (fun (y : PI) => (W.ordP y ((W.two (Prod.fst ((Min.min a b), (Max.max a b))) (Prod.snd ((Min.min a b), (Max.max a b))) 0), (W.two (Prod.fst ((Min.min a b), (Max.max a b))) (Prod.snd ((Min.min a b), (Max.max a b))) 1)))) (W.toPL (List.length (W.Net.cuts n)) (fun (i : Nat) => (W.prA (W.pAt (W.Net.cuts n) i))))) : Nat) : Int)) (W.prA ((Min.min a b), (Max.max a b))) (fun (i : Nat) => (W.prA (W.pAt (W.Net.cuts n) i)))))))] ∧
    ((W.ShK) ∧
    (Φ Ex.ret (St.mk [(0, (W.netA false false n)), (1, (AV.i a)), (2, (AV.i b)), (3, (AV.ptr 3 [])), (6, (AV.ptr 6 [])), (7, (AV.i (0 : Int))), (8, (AV.i (((W.bsI (fun (y : PI) => (W.ordP y ((W.two (Prod.fst ((Min.min a b), (Max.max a b))) (Prod.snd ((Min.min a b), (Max.max a b))) 0), (W.two (Prod.fst ((Min.min a b), (Max.max a b))) (Prod.snd ((Min.min a b), (Max.max a b))) 1)))) (W.toPL (List.length (W.Net.cuts n)) (fun (i : Nat) => (W.prA (W.pAt (W.Net.cuts n) i))))) : Nat) : Int))), (9, (AV.sb (W.bsB (fun (y : PI) => (W.ordP y ((W.two (Prod.fst ((Min.min a b), (Max.max a b))) (Prod.snd ((Min.min a b), (Max.max a b))) 0), (W.two (Prod.fst ((Min.min a b), (Max.max a b))) (Prod.snd ((Min.min a b), (Max.max a b))) 1)))) (W.toPL (List.length (W.Net.cuts n)) (fun (i : Nat) => (W.prA (W.pAt (W.Net.cuts n) i))))))), (13, (AV.v (Value.bool false))), (24, (AV.v (Value.bool false))), (27, (AV.v (Value.bool false)))] [(3, (Blk.c (AV.st [(W.dK false (W.Net.fly n)), (AV.sl (41 + (1000 * (2 - (List.length (reach [(3, (Blk.c (W.netA false false n))), (6, (Blk.c (AV.st [(AV.dat 0 true 0 (fun (x : Nat) => (AV.v (Value.tuple (List.toArray []))))), (AV.dat 0 true 0 (fun (x : Nat) => (AV.v (Value.tuple (List.toArray []))))), (AV.i (0 : Int))]))), (35, (Blk.c (AV.arr (List.length (W.Net.cuts n)) 2 (fun (i : Nat) => (W.prA (W.pAt (W.Net.cuts n) i)))))), (40, (Blk.c (AV.st [(W.prA ((Min.min a b), (Max.max a b)))])))] 40 [(AV.sl 35 [] 0 (List.length (W.Net.cuts n)) (List.length (W.Net.cuts n)) false 2), (AV.i (((W.bsI (fun (y : PI) => (W.ordP y ((W.two (Prod.fst ((Min.min a b), (Max.max a b))) (Prod.snd ((Min.min a b), (Max.max a b))) 0), (W.two (Prod.fst ((Min.min a b), (Max.max a b))) (Prod.snd ((Min.min a b), (Max.max a b))) 1)))) (W.toPL (List.length (W.Net.cuts n)) (fun (i : Nat) => (W.prA (W.pAt (W.Net.cuts n) i))))) : Nat) : Int)), (AV.sl 40 [] 0 1 1 true 2)] []))))) [] 0 ((List.length (W.Net.cuts n)) + 1) ((List.length (W.Net.cuts n)) + 1) false 2), (AV.i (W.Net.next n))]))), (6, (Blk.c (AV.st [(W.dK false (W.Net.fly n)), (AV.sl (41 + (1000 * (2 - (List.length (reach [(3, (Blk.c (W.netA false false n))), (6, (Blk.c (AV.st [(AV.dat 0 true 0 (fun (x : Nat) => (AV.v (Value.tuple (List.toArray []))))), (AV.dat 0 true 0 (fun (x : Nat) => (AV.v (Value.tuple (List.toArray []))))), (AV.i (0 : Int))]))), (35, (Blk.c (AV.arr (List.length (W.Net.cuts n)) 2 (fun (i : Nat) => (W.prA (W.pAt (W.Net.cuts n) i)))))), (40, (Blk.c (AV.st [(W.prA ((Min.min a b), (Max.max a b)))])))] 40 [(AV.sl 35 [] 0 (List.length (W.Net.cuts n)) (List.length (W.Net.cuts n)) false 2), (AV.i (((W.bsI (fun (y : PI) => (W.ordP y ((W.two (Prod.fst ((Min.min a b), (Max.max a b))) (Prod.snd ((Min.min a b), (Max.max a b))) 0), (W.two (Prod.fst ((Min.min a b), (Max.max a b))) (Prod.snd ((Min.min a b), (Max.max a b))) 1)))) (W.toPL (List.length (W.Net.cuts n)) (fun (i : Nat) => (W.prA (W.pAt (W.Net.cuts n) i))))) : Nat) : Int)), (AV.sl 40 [] 0 1 1 true 2)] []))))) [] 0 ((List.length (W.Net.cuts n)) + 1) ((List.length (W.Net.cuts n)) + 1) false 2), (AV.i (W.Net.next n))]))), ((41 + (1000 * (2 - (List.length (reach [(3, (Blk.c (W.netA false false n))), (6, (Blk.c (AV.st [(AV.dat 0 true 0 (fun (x : Nat) => (AV.v (Value.tuple (List.toArray []))))), (AV.dat 0 true 0 (fun (x : Nat) => (AV.v (Value.tuple (List.toArray []))))), (AV.i (0 : Int))]))), (35, (Blk.c (AV.arr (List.length (W.Net.cuts n)) 2 (fun (i : Nat) => (W.prA (W.pAt (W.Net.cuts n) i)))))), (40, (Blk.c (AV.st [(W.prA ((Min.min a b), (Max.max a b)))])))] 40 [(AV.sl 35 [] 0 (List.length (W.Net.cuts n)) (List.length (W.Net.cuts n)) false 2), (AV.i (((W.bsI (fun (y : PI) => (W.ordP y ((W.two (Prod.fst ((Min.min a b), (Max.max a b))) (Prod.snd ((Min.min a b), (Max.max a b))) 0), (W.two (Prod.fst ((Min.min a b), (Max.max a b))) (Prod.snd ((Min.min a b), (Max.max a b))) 1)))) (W.toPL (List.length (W.Net.cuts n)) (fun (i : Nat) => (W.prA (W.pAt (W.Net.cuts n) i))))) : Nat) : Int)), (AV.sl 40 [] 0 1 1 true 2)] []))))), (Blk.c (AV.arr ((List.length (W.Net.cuts n)) + 1) 2 (W.insF (Int.toNat (((W.bsI (fun (y : PI) => (W.ordP y ((W.two (Prod.fst ((Min.min a b), (Max.max a b))) (Prod.snd ((Min.min a b), (Max.max a b))) 0), (W.two (Prod.fst ((Min.min a b), (Max.max a b))) (Prod.snd ((Min.min a b), (Max.max a b))) 1)))) (W.toPL (List.length (W.Net.cuts n)) (fun (i : Nat) => (W.prA (W.pAt (W.Net.cuts n) i))))) : Nat) : Int)) (W.prA ((Min.min a b), (Max.max a b))) (fun (i : Nat) => (W.prA (W.pAt (W.Net.cuts n) i)))))))] [(41 + (1000 * (2 - (List.length (reach [(3, (Blk.c (W.netA false false n))), (6, (Blk.c (AV.st [(AV.dat 0 true 0 (fun (x : Nat) => (AV.v (Value.tuple (List.toArray []))))), (AV.dat 0 true 0 (fun (x : Nat) => (AV.v (Value.tuple (List.toArray []))))), (AV.i (0 : Int))]))), (35, (Blk.c (AV.arr (List.length (W.Net.cuts n)) 2 (fun (i : Nat) => (W.prA (W.pAt (W.Net.cuts n) i)))))), (40, (Blk.c (AV.st [(W.prA ((Min.min a b), (Max.max a b)))])))] 40 [(AV.sl 35 [] 0 (List.length (W.Net.cuts n)) (List.length (W.Net.cuts n)) false 2), (AV.i (((W.bsI (fun (y : PI) => (W.ordP y ((W.two (Prod.fst ((Min.min a b), (Max.max a b))) (Prod.snd ((Min.min a b), (Max.max a b))) 0), (W.two (Prod.fst ((Min.min a b), (Max.max a b))) (Prod.snd ((Min.min a b), (Max.max a b))) 1)))) (W.toPL (List.length (W.Net.cuts n)) (fun (i : Nat) => (W.prA (W.pAt (W.Net.cuts n) i))))) : Nat) : Int)), (AV.sl 40 [] 0 1 1 true 2)] []))))), 40, 35, 6, 3])))))))))))))))))) := by kernel_rfl
theorem heal_A (n : Net) (a b : Int) (K : Nat) (Φ : Ex → St → Prop) :
  (Holds C P 20 [] K Φ (vc C w_heal b_heal [] (start [netD n, .i a, .i b] []) lf)) =
  (Fun W.C W.P 43 [(AV.i a), (AV.i b)] [] (AV.sb (W.partsB a b)) [] ∧
 (True ∧
 (((! (W.partsB a b)) = true →
 ((W.ShK) ∧
  (Φ Ex.ret (St.mk [(0, (W.netA false false n)), (1, (AV.i a)), (2, (AV.i b)), (3, (AV.ptr 3 [])), (4, (AV.ptr 4 [])), (5, (AV.ptr 5 [])), (6, (AV.ptr 6 [])), (7, (AV.i (1 : Int))), (11, (AV.v (Value.bool true)))] [(3, (Blk.c (W.netA false false n))), (4, (Blk.c (AV.i a))), (5, (Blk.c (AV.i b))), (6, (Blk.c (W.netA false false n)))] [6, 5, 4, 3])))) ∧
 ((! (W.partsB a b)) = false →
 (∃ (S2 : St), Ent W.C 20 [] K (St.mk [(0, (W.netA false false n)), (1, (AV.i a)), (2, (AV.i b)), (3, (AV.ptr 3 [])), (4, (AV.ptr 4 [])), (5, (AV.ptr 5 [])), (6, (AV.ptr 6 [])), (7, (AV.i (0 : Int))), (11, (AV.v (Value.bool false)))] [(3, (Blk.c (W.netA false false n))), (4, (Blk.c (AV.i a))), (5, (Blk.c (AV.i b))), (6, (Blk.c (AV.st [(AV.dat 0 true 0 (fun (x : Nat) => (AV.v (Value.tuple (List.toArray []))))), (AV.dat 0 true 0 (fun (x : Nat) => (AV.v (Value.tuple (List.toArray []))))), (AV.i (0 : Int))])))] [6, 5, 4, 3]) S2 ∧ Holds W.C W.P 20 [] K Φ (cutAt W.C w_heal b_heal [1, 1, 0] S2 (after W.C w_heal b_heal [1, 1, 0] [] lf))))))) := by kernel_rfl
theorem heal_C3 (n : Net) (a b : Int) (K : Nat) (Φ : Ex → St → Prop) :
  (Holds C P 20 [] K Φ (cutAt C w_heal b_heal [1, 1, 0] (S_heal3 n a b) (after C w_heal b_heal [1, 1, 0] [] lf))) =
  (Fun W.C W.P 52 [(W.dP false (W.Net.cuts n))] [] (AV.sl 0 [] 0 (List.length (W.Net.cuts n)) (List.length (W.Net.cuts n)) false 2) [(0, (Blk.c (AV.arr (List.length (W.Net.cuts n)) 2 (fun (i : Nat) => (W.prA (W.pAt (W.Net.cuts n) i))))))] ∧
 (Fun W.C W.P 53 [(AV.sl 0 [] 0 (List.length (W.Net.cuts n)) (List.length (W.Net.cuts n)) false 2), (AV.fn (Fn.func 54) [(AV.pd (AV.i a)), (AV.pd (AV.i b))])] [(0, (Blk.c (AV.arr (List.length (W.Net.cuts n)) 2 (fun (i : Nat) => (W.prA (W.pAt (W.Net.cuts n) i))))))] (AV.sl 0 [] 0 (List.length (W.filtL (W.toPL (List.length (W.Net.cuts n)) (fun (i : Nat) => (W.prA (W.pAt (W.Net.cuts n) i)))) ((Min.min a b), (Max.max a b)))) (List.length (W.Net.cuts n)) false 2) [(0, (Blk.c (AV.arr (List.length (W.Net.cuts n)) 2 (fun (k : Nat) => (W.prA (W.pAt (W.filtL (W.toPL (List.length (W.Net.cuts n)) (fun (i : Nat) => (W.prA (W.pAt (W.Net.cuts n) i)))) ((Min.min a b), (Max.max a b))) k))))))] ∧
 ((W.ShK) ∧
 (Φ Ex.ret (St.mk [(3, (AV.ptr 3 [])), (4, (AV.pd (AV.i a))), (5, (AV.pd (AV.i b))), (6, (AV.ptr 6 [])), (7, (AV.i (0 : Int)))] [(3, (Blk.c (AV.st [(W.dK false (W.Net.fly n)), (AV.sl 15 [] 0 (List.length (W.filtL (W.toPL (List.length (W.Net.cuts n)) (fun (i : Nat) => (W.prA (W.pAt (W.Net.cuts n) i)))) ((Min.min a b), (Max.max a b)))) (List.length (W.Net.cuts n)) false 2), (AV.i (W.Net.next n))]))), (6, (Blk.c (AV.st [(W.dK false (W.Net.fly n)), (AV.sl 15 [] 0 (List.length (W.filtL (W.toPL (List.length (W.Net.cuts n)) (fun (i : Nat) => (W.prA (W.pAt (W.Net.cuts n) i)))) ((Min.min a b), (Max.max a b)))) (List.length (W.Net.cuts n)) false 2), (AV.i (W.Net.next n))]))), (15, (Blk.c (AV.arr (List.length (W.Net.cuts n)) 2 (fun (k : Nat) => (W.prA (W.pAt (W.filtL (W.toPL (List.length (W.Net.cuts n)) (fun (i : Nat) => (W.prA (W.pAt (W.Net.cuts n) i)))) ((Min.min a b), (Max.max a b))) k))))))] [15, 3, 6]))))) := by kernel_rfl
/-! What holds of nets. -/
def VN (n : Net) : Prop := (n.fly.Pairwise fun x y => x.1 < y.1) ∧ (∀ p, p ∈ n.fly → 1 ≤ p.1 ∧ p.1 < n.next ∧ partsB p.2.1 p.2.2 = true) ∧ (n.cuts.Pairwise fun x y => ordP x y < 0) ∧ (∀ x, x ∈ n.cuts → partsB x.1 x.2 = true ∧ x = ofI x.1 x.2) ∧ n.fly.length ≤ 200 ∧ n.cuts.length ≤ 200 ∧ 1 ≤ n.next ∧ n.next ≤ 1000000000
theorem kAt_lt {l : List Pk} {j : Nat} (h : j < l.length) : kAt l j = l[j] := by
  show l.getD j (0, 0, 0) = _
  rw [List.getD_eq_getElem?_getD, List.getElem?_eq_getElem h]; rfl
theorem toKL_pK (l : List Pk) : toKL l.length (fun i => pkA (kAt l i)) = l := by
  unfold toKL
  refine List.ext_getElem (by simp) fun i h1 h2 => ?_
  simp only [List.getElem_map, List.getElem_range, toK, asI]
  exact kAt_lt h2
theorem toN_net (e1 e2 : Bool) (n : Net) : toN (netA e1 e2 n) = n := by
  show Net.mk (toKL n.fly.length fun i => pkA (kAt n.fly i)) (toPL n.cuts.length fun i => prA (pAt n.cuts i)) n.next = n
  rw [toKL_pK, toPL_pA]
theorem cmpI_lt {a b : Int} : cmpI a b < 0 ↔ a < b := by unfold cmpI; split <;> (try split) <;> omega
theorem cmpI_eq {a b : Int} : cmpI a b = 0 ↔ a = b := by unfold cmpI; split <;> (try split) <;> omega
theorem cmpI_le {a b : Int} : cmpI a b ≤ 0 ↔ a ≤ b := by unfold cmpI; split <;> (try split) <;> omega
theorem ordP_lt {x y : PI} : ordP x y < 0 ↔ x.1 < y.1 ∨ (x.1 = y.1 ∧ x.2 < y.2) := by
  unfold ordP orI
  by_cases h : cmpI x.1 y.1 = 0
  · rw [if_neg (by simpa using h), cmpI_lt]
    have := cmpI_eq.1 h
    omega
  · rw [if_pos h, cmpI_lt]
    have : x.1 ≠ y.1 := fun e => h (cmpI_eq.2 e)
    omega
theorem ordP_eq {x y : PI} : ordP x y = 0 ↔ x = y := by
  obtain ⟨a, b⟩ := x
  obtain ⟨c, d⟩ := y
  unfold ordP orI
  simp only [Prod.mk.injEq]
  by_cases h : cmpI a c = 0
  · rw [if_neg (by simpa using h), cmpI_eq]
    have := cmpI_eq.1 h
    omega
  · rw [if_pos h]
    have : a ≠ c := fun e => h (cmpI_eq.2 e)
    exact ⟨fun h2 => absurd h2 h, fun h2 => absurd h2.1 this⟩
theorem ordP_le {x y : PI} : ordP x y ≤ 0 ↔ ordP x y < 0 ∨ x = y := by
  constructor
  · intro h
    by_cases e : ordP x y = 0
    · exact .inr (ordP_eq.1 e)
    · exact .inl (by omega)
  · rintro (h | h)
    · omega
    · rw [ordP_eq.2 h]; exact Int.le_refl _
theorem ordP_trans {x y z : PI} (h1 : ordP x y < 0) (h2 : ordP y z < 0) : ordP x z < 0 := by
  rw [ordP_lt] at *; omega
theorem ordP_total {x y : PI} (h : ¬ ordP x y < 0) (hne : x ≠ y) : ordP y x < 0 := by
  obtain ⟨a, b⟩ := x
  obtain ⟨c, d⟩ := y
  have hne : ¬ (a = c ∧ b = d) := fun e => hne (by rw [e.1, e.2])
  rw [ordP_lt] at *; dsimp only at *; omega
theorem mono_K {l : List Pk} (h : l.Pairwise fun x y => x.1 < y.1) (id : Int) : Mono (cK id) l (0, 0, 0) := fun i j hij hj hc => by
  have := List.pairwise_iff_getElem.1 h i j (by omega) hj hij
  change cmpI (kAt l j).1 id ≤ 0 at hc
  change cmpI (kAt l i).1 id < 0
  rw [kAt_lt hj, cmpI_le] at hc
  rw [kAt_lt (by omega), cmpI_lt]
  omega
theorem mono_P {l : List PI} (h : l.Pairwise fun x y => ordP x y < 0) (x : PI) : Mono (cP x) l (0, 0) := fun i j hij hj hc => by
  have := List.pairwise_iff_getElem.1 h i j (by omega) hj hij
  change ordP (pAt l j) x ≤ 0 at hc
  change ordP (pAt l i) x < 0
  rw [pAt_lt hj, ordP_le] at hc
  rw [pAt_lt (by omega)]
  rcases hc with hc | rfl
  · exact ordP_trans this hc
  · exact this
/-- What the search finds. -/
theorem bs_spec {α : Type} {c : α → Int} {l : List α} {d : α} (hm : Mono c l d) : bsI c l ≤ l.length ∧ (∀ i, i < bsI c l → c (l.getD i d) < 0) ∧ (∀ i, bsI c l ≤ i → i < l.length → 0 ≤ c (l.getD i d)) ∧ (bsB c l = true ↔ bsI c l < l.length ∧ c (l.getD (bsI c l) d) = 0) := by
  obtain ⟨h1, h2, h3⟩ := tw_spec (fun y => decide (c y < 0)) d l
  change bsI c l ≤ _ at h1
  have h2 : ∀ i, i < bsI c l → c (l.getD i d) < 0 := fun i hi => of_decide_eq_true (h2 i hi)
  have h3 : bsI c l < l.length → ¬ c (l.getD (bsI c l) d) < 0 := fun h => of_decide_eq_false (h3 h)
  have h4 : ∀ i, bsI c l ≤ i → i < l.length → 0 ≤ c (l.getD i d) := fun i hi hl => by
    refine Classical.byContradiction fun hc => ?_
    by_cases e : i = bsI c l
    · rw [e] at hc hl; exact h3 hl (by omega)
    · exact h3 (by omega) (hm (bsI c l) i (by omega) hl (by omega))
  refine ⟨h1, h2, h4, ⟨fun hb => ?_, fun ⟨hk, h0⟩ => ?_⟩⟩
  · by_cases hk : bsI c l < l.length
    · rw [bs_has hm hk h2 (h4 _ (Nat.le_refl _) hk)] at hb
      exact ⟨hk, of_decide_eq_true hb⟩
    · rw [bs_none (d := d) fun i hi => h2 i (by omega)] at hb
      cases hb
  · rw [bs_has hm hk h2 (h4 _ (Nat.le_refl _) hk)]; exact decide_eq_true h0
theorem VN.find {n : Net} (h : VN n) {id : Int} (hf : findB n id = true) : findI n id < n.fly.length ∧ (pkN n id).1 = id := by
  have := (bs_spec (mono_K h.1 id)).2.2.2.1 hf
  exact ⟨this.1, cmpI_eq.1 this.2⟩
theorem VN.findI_le {n : Net} (h : VN n) (id : Int) : findI n id ≤ n.fly.length := (bs_spec (mono_K h.1 id)).1

/-! The functions. -/
section
variable {C : Ctx} {N : Nat} {S : St}
/-- A net in an own cell, and a number; the blocks L are data from now on. -/
theorem post_net2 (L : List Nat) {a u id : Nat} {x : AV} {y q : Int} {n : Net} (h : look (S.freeze L).tm a = some (.ptr id [])) (hb : look (S.freeze L).hp id = some (.c x)) (hs : simR (look [(id, 0)]) x (netD n)) (hu : look (S.freeze L).tm u = some (.i y)) (hq : y = q) (hau : Nat.beq a u = false) :
    FunPost W.C N 0 [.cell a 30, .tmp u] (.tup [netD n, .i q]) [] .ret S := by
  refine funPost_of (r' := .tup [netD n, .i q]) (S2 := { tm := [(a, .ptr 0 []), (u, .i q)], hp := [(0, .c (netD n))], seen := [0] }) (by simp) ((ent_freeze S L).trans (ent_of [(id, 0)] ?_ (tm_cons h (sm_ptr (by simp [look, Nat.beq_refl])) (tm_cons hu (sm_int hq) tm_nil)) (hp_cons rfl hb hs hp_nil))) ?_ (.inl ⟨rfl, rfl⟩) fun id b hb => by cases hb
  · simp only [namesOK, keysOf, distinct, memb, List.map, List.all_cons, List.all_nil, List.range_zero, Nat.beq_refl]
    cases memb (S.freeze L).seen id <;> rfl
  · have hf : fitsT W.C 30 (netD n) = true := by rfl
    simp [resAV, resAll, resOne, look, Nat.beq_refl, AV.sub, hf, hau, noTups, noTup]
end
theorem find_fun {n : Net} (h : VN n) (id : Int) : Fun C P F_find [netD n, .i id] [] (.tup [.i (if findB n id then (findI n id : Nat) else 0), .i (if findB n id then 0 else 90)]) [] := by
  refine in_find (W := w_find) rfl 0 (by simp) rfl (fun id h => absurd rfl h) ?_
  refine of_eq (find_A n id 0 _) ?_
  have e : toKL n.fly.length (fun i => pkA (kAt n.fly i)) = n.fly := toKL_pK _
  rw [e]
  refine ⟨bsK_fun false n.fly id (by have := h.2.2.2.2.1; omega) (mono_K h.1 id), fun h2 => ?_, fun h2 => ?_⟩
  · rw [if_neg (by unfold findB; simpa using h2), if_neg (by unfold findB; simpa using h2)]
    exact post_tup rfl rfl (sm_int rfl) (sm_int rfl) rfl
  · rw [if_pos (by unfold findB; simpa using h2), if_pos (by unfold findB; simpa using h2)]
    exact post_tup rfl rfl (sm_int rfl) (sm_int rfl) rfl
theorem bnt {b : Bool} (h : (!b) = true) : b = false := by cases b <;> simp_all
theorem bnf {b : Bool} (h : (!b) = false) : b = true := by cases b <;> simp_all
theorem pr_two (a b : Int) : ((two (ofI a b).1 (ofI a b).2 0, two (ofI a b).1 (ofI a b).2 1) : PI) = ofI a b := rfl
theorem reach_fun {n : Net} (h : VN n) (a b : Int) : Fun C P F_reach [netD n, .i a, .i b] [] (.sb (reachN n a b)) [] := by
  refine in_reach (W := w_reach) rfl 0 (by simp) rfl (fun id h => absurd rfl h) ?_
  refine of_eq (reach_A n a b 0 _) ?_
  have e : toPL n.cuts.length (fun i => prA (pAt n.cuts i)) = n.cuts := toPL_pA _
  rw [e]
  exact ⟨ofP_fun a b, fun _ _ => trivial, bsP_fun false n.cuts (ofI a b) (by have := h.2.2.2.2.2.1; omega) (mono_P h.2.2.1 _), post_tmp rfl (sm_sb rfl)⟩
theorem addB_t {n : Net} : addB n = true ↔ n.fly.length < 200 ∧ n.next < 1000000000 := by simp [addB]
theorem kAt_app {l : List Pk} {y : Pk} {k n : Nat} (hn : l.length = n) (hk : k < n + 1) : kAt (l ++ [y]) k = if k < n then kAt l k else y := by
  subst hn
  rw [kAt_lt (by simp; omega), List.getElem_append]
  split
  · rename_i h; exact (kAt_lt h).symm
  · simp
abbrev shpK : (((true = true) ∧ (Bool.true = true)) ∧ (((true = true) ∧ (Bool.true = true)) ∧ (((true = true) ∧ (Bool.true = true)) ∧ True))) := ⟨⟨rfl, rfl⟩, ⟨rfl, rfl⟩, ⟨rfl, rfl⟩, trivial⟩
theorem add_fun {n : Net} (h : VN n) (a b : Int) : Fun C P F_add [netD n, .i a, .i b] [] (.tup [netD (addN n a b), .i (if addB n then 0 else 2)]) [] := by
  refine in_add (W := w_add) rfl 0 (by simp) rfl (fun id h => absurd rfl h) ?_
  have hv := h.2.2.2.2
  have no : addB n = false → addN n a b = n ∧ (if addB n then (0 : Int) else 2) = 2 := fun hb => by unfold addN; rw [hb]; exact ⟨rfl, rfl⟩
  refine of_eq (add_A n a b 0 _) ⟨fun h1 => ⟨shpK, ?_⟩, fun h1 => ⟨fun h2 => ⟨shpK, ?_⟩, fun h2 => ?_⟩⟩
  · simp only [decide_eq_true_eq] at h1
    obtain ⟨e1, e2⟩ := no (by rw [Bool.eq_false_iff]; exact fun hb => by have := addB_t.1 hb; omega)
    rw [e1, e2]
    exact post_net2 [] rfl rfl (sm_same rfl) rfl rfl rfl
  · simp only [decide_eq_true_eq] at h2
    obtain ⟨e1, e2⟩ := no (by rw [Bool.eq_false_iff]; exact fun hb => by have := addB_t.1 hb; omega)
    rw [e1, e2]
    exact post_net2 [] rfl rfl (sm_same rfl) rfl rfl rfl
  · simp only [decide_eq_false_iff_not] at h1 h2
    have hb : addB n = true := addB_t.2 (by omega)
    have e1 : addN n a b = ⟨n.fly ++ [(n.next, a, b)], n.cuts, n.next + 1⟩ := by unfold addN; rw [hb]; rfl
    rw [e1, hb]
    refine ⟨cloneK_fun false n.fly (by omega), (by first | omega | decide | (unfold I64; omega)), (by first | omega | decide | (unfold I64; omega)), shpK, ?_⟩
    refine post_net2 [27] rfl rfl (sm_st ⟨sm_dat' (by simp) (by simp) fun i hi => ?_, sm_same rfl, sm_int rfl, trivial⟩) rfl rfl rfl
    dsimp only
    rw [kAt_app rfl hi]
    unfold cat
    rw [Nat.zero_add]
    by_cases h3 : i < n.fly.length
    · rw [if_pos h3, if_pos h3]
      show pkA (kAt n.fly (0 + i)) = _
      rw [Nat.zero_add]
    · rw [if_neg h3, if_neg h3]
      obtain rfl : i = n.fly.length := by omega
      simp [nthD]
section
variable {C : Ctx} {N : Nat} {S : St}
/-- A net in an own cell, and two numbers. -/
theorem post_net3 (L : List Nat) {a u v id : Nat} {x : AV} {y q z p : Int} {n : Net} (h : look (S.freeze L).tm a = some (.ptr id [])) (hb : look (S.freeze L).hp id = some (.c x)) (hs : simR (look [(id, 0)]) x (netD n)) (hu : look (S.freeze L).tm u = some (.i y)) (hq : y = q) (hv : look (S.freeze L).tm v = some (.i z)) (hp : z = p)
    (hau : Nat.beq a u = false) (hav : Nat.beq a v = false) (huv : Nat.beq u v = false) :
    FunPost W.C N 0 [.cell a 30, .tmp u, .tmp v] (.tup [netD n, .i q, .i p]) [] .ret S := by
  refine funPost_of (r' := .tup [netD n, .i q, .i p]) (S2 := { tm := [(a, .ptr 0 []), (u, .i q), (v, .i p)], hp := [(0, .c (netD n))], seen := [0] }) (by simp) ((ent_freeze S L).trans (ent_of [(id, 0)] ?_ (tm_cons h (sm_ptr (by simp [look, Nat.beq_refl])) (tm_cons hu (sm_int hq) (tm_cons hv (sm_int hp) tm_nil))) (hp_cons rfl hb hs hp_nil))) ?_ (.inl ⟨rfl, rfl⟩) fun id b hb => by cases hb
  · simp only [namesOK, keysOf, distinct, memb, List.map, List.all_cons, List.all_nil, List.range_zero, Nat.beq_refl]
    cases memb (S.freeze L).seen id <;> rfl
  · have hf : fitsT W.C 30 (netD n) = true := by rfl
    simp [resAV, resAll, resOne, look, Nat.beq_refl, AV.sub, hf, hau, hav, huv, noTups, noTup]
/-- A net and a packet in own cells, and a number. -/
theorem post_net3p (L : List Nat) {a u v id id2 : Nat} {x x2 : AV} {z p : Int} {n : Net} {k : Pk} (h : look (S.freeze L).tm a = some (.ptr id [])) (hb : look (S.freeze L).hp id = some (.c x)) (hs : simR (look [(id, 0), (id2, 1)]) x (netD n)) (h2 : look (S.freeze L).tm u = some (.ptr id2 [])) (hb2 : look (S.freeze L).hp id2 = some (.c x2)) (hs2 : simR (look [(id, 0), (id2, 1)]) x2 (pkA k)) (hv : look (S.freeze L).tm v = some (.i z)) (hp : z = p)
    (hau : Nat.beq a u = false) (hav : Nat.beq a v = false) (huv : Nat.beq u v = false) (hid : Nat.beq id id2 = false) (hid2 : Nat.beq id2 id = false) :
    FunPost W.C N 0 [.cell a 30, .cell u 25, .tmp v] (.tup [netD n, pkA k, .i p]) [] .ret S := by
  have l1 : look [(id, 0), (id2, 1)] id = some 0 := by simp [look, Nat.beq_refl]
  have l2 : look [(id, 0), (id2, 1)] id2 = some 1 := by simp [look, Nat.beq_refl, hid]
  have p1 : pre? [(id, 0), (id2, 1)] 1 = some id2 := by simp [pre?, Nat.beq_refl]
  refine funPost_of (r' := .tup [netD n, pkA k, .i p]) (S2 := { tm := [(a, .ptr 0 []), (u, .ptr 1 []), (v, .i p)], hp := [(0, .c (netD n)), (1, .c (pkA k))], seen := [0, 1] }) (by simp) ((ent_freeze S L).trans (ent_of [(id, 0), (id2, 1)] ?_ (tm_cons h (sm_ptr l1) (tm_cons h2 (sm_ptr l2) (tm_cons hv (sm_int hp) tm_nil))) (hp_cons rfl hb hs (hp_cons p1 hb2 hs2 hp_nil)))) ?_ (.inl ⟨rfl, rfl⟩) fun id b hb => by cases hb
  · simp only [namesOK, keysOf, distinct, memb, List.map, List.all_cons, List.all_nil, List.range_zero, Nat.beq_refl, hid, hid2]
    cases memb (S.freeze L).seen id <;> cases memb (S.freeze L).seen id2 <;> rfl
  · have hf : fitsT W.C 30 (netD n) = true := by rfl
    have hf2 : fitsT W.C 25 (pkA k) = true := by rfl
    simp [resAV, resAll, resOne, look, Nat.beq_refl, AV.sub, hf, hf2, hau, hav, huv, noTups, noTup]
end
theorem send_fun {n : Net} (h : VN n) (a b : Int) : Fun C P F_send [netD n, .i a, .i b] [] (.tup [netD (sendN n a b), .i (sendI n a b), .i (sendE n a b)]) [] := by
  refine in_send (W := w_send) rfl 0 (by simp) rfl (fun id h => absurd rfl h) ?_
  refine of_eq (send_A n a b 0 _) ?_
  have e0 : toN (netD n) = n := toN_net false false n
  rw [e0]
  refine ⟨parts_fun a b, trivial, fun h1 => ⟨shpK, ?_⟩, fun h1 => ⟨add_fun h a b, shpK, fun h2 => ⟨shpK, ?_⟩, fun h2 => ⟨shpK, ?_⟩⟩⟩
  · have hp : partsB a b = false := by simpa using h1
    have e : sendE n a b = 1 := by unfold sendE; rw [hp]; rfl
    have e1 : sendN n a b = n := by unfold sendN; rw [e]; rfl
    have e2 : sendI n a b = 0 := by unfold sendI; rw [e]; rfl
    rw [e, e1, e2]
    exact post_net3 [] rfl rfl (sm_same rfl) rfl rfl rfl rfl rfl rfl rfl
  · have hp : partsB a b = true := by simpa using h1
    have hb : addB n = false := by
      cases hb : addB n with
      | false => rfl
      | true => rw [hb] at h2; simp at h2
    have e : sendE n a b = 2 := by unfold sendE; rw [hp, hb]; rfl
    have e1 : sendN n a b = n := by unfold sendN; rw [e]; rfl
    have e2 : sendI n a b = 0 := by unfold sendI; rw [e]; rfl
    rw [e, e1, e2]
    exact post_net3 [] rfl rfl (sm_same rfl) rfl rfl rfl (by rw [hb]; rfl) rfl rfl rfl
  · have hp : partsB a b = true := by simpa using h1
    have hb : addB n = true := by
      cases hb : addB n with
      | true => rfl
      | false => rw [hb] at h2; simp at h2
    have e : sendE n a b = 0 := by unfold sendE; rw [hp, hb]; rfl
    have e1 : sendN n a b = addN n a b := by unfold sendN; rw [e]; rfl
    have e2 : sendI n a b = n.next := by unfold sendI; rw [e]; rfl
    rw [e, e1, e2]
    exact post_net3 [] rfl rfl (sm_same rfl) rfl rfl rfl rfl rfl rfl rfl
theorem findE_ne {n : Net} {id : Int} (h : ((if findB n id then (0 : Int) else 90) != 0) = true) : findB n id = false := by
  cases hf : findB n id with
  | false => rfl
  | true => rw [hf] at h; simp at h
theorem findE_eq {n : Net} {id : Int} (h : ((if findB n id then (0 : Int) else 90) != 0) = false) : findB n id = true := by
  cases hf : findB n id with
  | true => rfl
  | false => rw [hf] at h; simp at h
theorem delF_fly {l : List Pk} {i k : Nat} (hi : i < l.length) (hk : k < l.length - 1) : delF l.length i (pkA (0, 0, 0)) (fun j => pkA (kAt l j)) k = pkA (kAt (l.eraseIdx i) k) := by
  have hl : (l.eraseIdx i).length = l.length - 1 := by rw [List.length_eraseIdx]; simp [hi]
  rw [kAt_lt (by omega), List.getElem_eraseIdx]
  unfold delF
  split
  · show pkA (kAt l k) = _
    rw [kAt_lt (by omega)]
  · rw [if_pos (by omega)]
    show pkA (kAt l (k + 1)) = _
    rw [kAt_lt (by omega)]
theorem lose_fun {n : Net} (h : VN n) (id : Int) : Fun C P F_lose [netD n, .i id] [] (.tup [netD (loseN n id), .i (loseE n id)]) [] := by
  refine in_lose (W := w_lose) rfl 0 (by simp) rfl (fun id h => absurd rfl h) ?_
  refine of_eq (lose_A n id 0 _) ?_
  have e0 : toN (netD n) = n := toN_net false false n
  rw [e0]
  refine ⟨find_fun h id, fun h1 => ⟨shpK, ?_⟩, fun h1 => ?_⟩
  · have hf := findE_ne h1
    have e1 : loseN n id = n := by unfold loseN; rw [hf]; rfl
    have e2 : loseE n id = 90 := by unfold loseE; rw [hf]; rfl
    rw [e1, e2]
    exact post_net2 [] rfl rfl (sm_same rfl) rfl (by rw [hf]; rfl) rfl
  · have hf := findE_eq h1
    have hlt := (h.find hf).1
    have hv := h.2.2.2.2
    have e1 : loseN n id = ⟨n.fly.eraseIdx (findI n id), n.cuts, n.next⟩ := by unfold loseN; rw [hf]; rfl
    have e2 : loseE n id = 0 := by unfold loseE; rw [hf]; rfl
    have i1 : (if findB n id = true then ((findI n id : Nat) : Int) else 0) = (findI n id : Nat) := if_pos hf
    rw [e1, e2, i1, Int.toNat_natCast]
    refine ⟨cloneK_fun false n.fly (by omega), (by first | omega | decide | (unfold I64; omega)), delK_fun n.fly (findI n id) hlt (by omega), shpK, ?_⟩
    refine post_net2 [20] rfl rfl (sm_st ⟨sm_dat' (by rw [List.length_eraseIdx]; simp [hlt]) (by simp) fun i hi => ?_, sm_same rfl, sm_int rfl, trivial⟩) rfl rfl rfl
    rw [Nat.zero_add]
    exact delF_fly hlt hi
theorem take_fun {n : Net} (h : VN n) (id : Int) : Fun C P F_take [netD n, .i id] [] (.tup [netD (takeN n id), pkA (takeP n id), .i (takeE n id)]) [] := by
  refine in_take (W := w_take) rfl 0 (by simp) rfl (fun id h => absurd rfl h) ?_
  refine of_eq (take_A n id 0 _) ?_
  have e0 : toN (netD n) = n := toN_net false false n
  rw [e0]
  refine ⟨find_fun h id, fun h1 => ⟨shpK, shpK, ?_⟩, fun h1 => ?_⟩
  · have hf := findE_ne h1
    have e2 : takeE n id = 90 := by unfold takeE; rw [hf]; rfl
    have e1 : takeN n id = n := by unfold takeN; rw [e2]; rfl
    have e3 : takeP n id = (0, 0, 0) := by unfold takeP; rw [e2]; rfl
    rw [e1, e2, e3]
    exact post_net3p [] rfl rfl (sm_same rfl) rfl rfl (sm_same rfl) rfl (by rw [hf]; rfl) rfl rfl rfl rfl rfl
  · have hf := findE_eq h1
    have hlt := (h.find hf).1
    have hv := h.2.2.2.2
    have i1 : (if findB n id = true then ((findI n id : Nat) : Int) else 0) = (findI n id : Nat) := if_pos hf
    rw [i1, Int.toNat_natCast]
    refine ⟨(by first | omega | decide | (unfold I64; omega)), shpK, reach_fun h _ _, trivial, fun h2 => ⟨shpK, shpK, ?_⟩, fun h2 => ⟨lose_fun h id, shpK, shpK, shpK, ?_⟩⟩
    · have hr : reachN n (pkN n id).2.1 (pkN n id).2.2 = false := bnt h2
      have e2 : takeE n id = 320 := by unfold takeE; rw [hf, hr]; rfl
      have e1 : takeN n id = n := by unfold takeN; rw [e2]; rfl
      have e3 : takeP n id = (0, 0, 0) := by unfold takeP; rw [e2]; rfl
      rw [e1, e2, e3]
      exact post_net3p [] rfl rfl (sm_same rfl) rfl rfl (sm_same rfl) rfl rfl rfl rfl rfl rfl rfl
    · have hr : reachN n (pkN n id).2.1 (pkN n id).2.2 = true := bnf h2
      have e2 : takeE n id = 0 := by unfold takeE; rw [hf, hr]; rfl
      have e1 : takeN n id = loseN n id := by unfold takeN; rw [e2]; rfl
      have e3 : takeP n id = pkN n id := by unfold takeP; rw [e2]; rfl
      rw [e1, e2, e3]
      exact post_net3p [] rfl rfl (sm_same rfl) rfl rfl (sm_same rfl) rfl rfl rfl rfl rfl rfl rfl
theorem double_fun {n : Net} (h : VN n) (id : Int) : Fun C P F_double [netD n, .i id] [] (.tup [netD (dblN n id), .i (dblE n id)]) [] := by
  refine in_double (W := w_double) rfl 0 (by simp) rfl (fun id h => absurd rfl h) ?_
  refine of_eq (double_A n id 0 _) ?_
  have e0 : toN (netD n) = n := toN_net false false n
  rw [e0]
  refine ⟨find_fun h id, fun h1 => ⟨shpK, ?_⟩, fun h1 => ?_⟩
  · have hf := findE_ne h1
    have e2 : dblE n id = 90 := by unfold dblE; rw [hf]; rfl
    have e1 : dblN n id = n := by unfold dblN; rw [e2]; rfl
    rw [e1, e2]
    exact post_net2 [] rfl rfl (sm_same rfl) rfl (by rw [hf]; rfl) rfl
  · have hf := findE_eq h1
    have hlt := (h.find hf).1
    have hv := h.2.2.2.2
    have i1 : (if findB n id = true then ((findI n id : Nat) : Int) else 0) = (findI n id : Nat) := if_pos hf
    rw [i1, Int.toNat_natCast]
    refine ⟨(by first | omega | decide | (unfold I64; omega)), (by first | omega | decide | (unfold I64; omega)), add_fun h _ _, shpK, ?_⟩
    have e1 : dblE n id = if addB n then 0 else 2 := by unfold dblE; rw [hf]; rfl
    have e2 : dblN n id = addN n (pkN n id).2.1 (pkN n id).2.2 := by
      unfold dblN; rw [e1]
      cases hb : addB n with
      | true => rfl
      | false => unfold addN; rw [hb]; rfl
    rw [e1, e2]
    exact post_net2 [] rfl rfl (sm_same rfl) rfl rfl rfl
theorem ins_cuts {l : List PI} {i k : Nat} {x : PI} (hi : i ≤ l.length) (hk : k < l.length + 1) : insF i (prA x) (fun j => prA (pAt l j)) k = prA (pAt (l.insertIdx i x) k) := by
  have hl : (l.insertIdx i x).length = l.length + 1 := List.length_insertIdx_of_le_length hi _
  rw [pAt_lt (by omega), List.getElem_insertIdx]
  unfold insF
  by_cases h1 : k < i
  · rw [if_pos h1, dif_pos h1]; show prA (pAt l k) = _; rw [pAt_lt (by omega)]
  · by_cases h2 : k = i
    · rw [if_neg h1, if_pos h2, dif_neg h1, dif_pos h2]
    · rw [if_neg h1, if_neg h2, dif_neg h1, dif_neg h2]; show prA (pAt l (k - 1)) = _; rw [pAt_lt (by omega)]
theorem sever_fun {n : Net} (h : VN n) (a b : Int) : Fun C P F_sever [netD n, .i a, .i b] [] (.tup [netD (sevN n a b), .i (sevE n a b)]) [] := by
  refine in_sever (W := w_sever) rfl 0 (by simp) rfl (fun id h => absurd rfl h) ?_
  refine of_eq (sever_A n a b 0 _) ?_
  have e : toPL n.cuts.length (fun i => prA (pAt n.cuts i)) = n.cuts := toPL_pA _
  have hv := h.2.2.2.2
  rw [e]
  refine ⟨parts_fun a b, trivial, fun h1 => ⟨shpK, ?_⟩, fun h1 => ⟨ofP_fun a b, fun _ _ => trivial, bsP_fun false n.cuts (ofI a b) (by omega) (mono_P h.2.2.1 _), fun h2 => ⟨shpK, ?_⟩, fun h2 => ⟨fun h3 => ⟨shpK, ?_⟩, fun h3 => ?_⟩⟩⟩
  · have hp : partsB a b = false := by simpa using h1
    have e1 : sevN n a b = n := by unfold sevN; rw [hp]; rfl
    have e2 : sevE n a b = 1 := by unfold sevE; rw [hp]; rfl
    rw [e1, e2]
    exact post_net2 [] rfl rfl (sm_same rfl) rfl rfl rfl
  · have hp : partsB a b = true := by simpa using h1
    have hr : reachN n a b = false := by unfold reachN; rw [show bsB (cP (ofI a b)) n.cuts = true from h2]; rfl
    have e1 : sevN n a b = n := by unfold sevN; rw [hp, hr]; rfl
    have e2 : sevE n a b = 0 := by unfold sevE; rw [hp, hr]; rfl
    rw [e1, e2]
    exact post_net2 [] rfl rfl (sm_same rfl) rfl rfl rfl
  · have hp : partsB a b = true := by simpa using h1
    have hr : reachN n a b = true := by unfold reachN; rw [show bsB (cP (ofI a b)) n.cuts = false from h2]; rfl
    simp only [decide_eq_true_eq] at h3
    have hl : ¬ n.cuts.length < 200 := by omega
    have e1 : sevN n a b = n := by unfold sevN; rw [hp, hr, decide_eq_false hl]; rfl
    have e2 : sevE n a b = 2 := by unfold sevE; rw [hp, hr, if_neg hl]; rfl
    rw [e1, e2]
    exact post_net2 [] rfl rfl (sm_same rfl) rfl rfl rfl
  · have hp : partsB a b = true := by simpa using h1
    have hr : reachN n a b = true := by unfold reachN; rw [show bsB (cP (ofI a b)) n.cuts = false from h2]; rfl
    simp only [decide_eq_false_iff_not] at h3
    have hl : n.cuts.length < 200 := by omega
    have e1 : sevN n a b = ⟨n.fly, n.cuts.insertIdx (bsI (cP (ofI a b)) n.cuts) (ofI a b), n.next⟩ := by unfold sevN; rw [hp, hr, decide_eq_true hl]; rfl
    have e2 : sevE n a b = 0 := by unfold sevE; rw [hp, hr, if_pos hl]; rfl
    have hle := (bs_spec (mono_P h.2.2.1 (ofI a b))).1
    rw [e1, e2, Int.toNat_natCast]
    refine ⟨cloneP_fun false n.cuts (by omega), ofP_fun a b, fun _ _ => trivial, (insP_fun n.cuts (ofI a b) _ hle (by omega)).sim ⟨sm_sl rfl rfl (Nat.le_refl _) (Nat.le_refl _) (fun h => ⟨h, rfl⟩), sm_same rfl, sm_sl rfl rfl (Nat.le_refl _) (Nat.le_refl _) (fun h => ⟨h, rfl⟩), trivial⟩ ⟨rfl, sm_same rfl, rfl, sm_row rfl rfl rfl (fun i x hx => by cases i with | zero => cases hx; rfl | succ i => cases i <;> cases hx), trivial⟩, shpK, ?_⟩
    refine post_net2 [41] rfl rfl (sm_st ⟨sm_same rfl, sm_dat' (by rw [List.length_insertIdx_of_le_length hle]) (by simp) fun i hi => ?_, sm_int rfl, trivial⟩) rfl rfl rfl
    rw [Nat.zero_add]
    exact ins_cuts hle hi
theorem heal_fun {n : Net} (h : VN n) (a b : Int) : Fun C P F_heal [netD n, .i a, .i b] [] (.tup [netD (healN n a b), .i (healE a b)]) [] := by
  refine in_heal (W := w_heal) rfl 0 (by simp) rfl (fun id h => absurd rfl h) ?_
  have hv := h.2.2.2.2
  refine of_eq (heal_A n a b 0 _) ⟨parts_fun a b, trivial, fun h1 => ⟨shpK, ?_⟩, fun h1 => ?_⟩
  · have hp : partsB a b = false := by simpa using h1
    have e1 : healN n a b = n := by unfold healN; rw [hp]; rfl
    have e2 : healE a b = 1 := by unfold healE; rw [hp]; rfl
    rw [e1, e2]
    exact post_net2 [] rfl rfl (sm_same rfl) rfl rfl rfl
  · have hp : partsB a b = true := by simpa using h1
    have e1 : healN n a b = ⟨n.fly, filtL n.cuts (ofI a b), n.next⟩ := by unfold healN; rw [hp]; rfl
    have e2 : healE a b = 0 := by unfold healE; rw [hp]; rfl
    rw [e1, e2]
    refine cut_ok (S2 := S_heal3 n a b) ((ent_freeze _ [4, 5]).trans (ent_of [(3, 3), (6, 6)] rfl (tm_cons rfl (sm_ptr rfl) (tm_cons rfl (sm_same rfl) (tm_cons rfl (sm_same rfl) (tm_cons rfl (sm_ptr rfl) tm_nil)))) (hp_cons rfl rfl (sm_same rfl) (hp_cons rfl rfl (sm_same rfl) hp_nil)))) ?_
    refine of_eq (heal_C3 n a b 0 _) ?_
    have e : toPL n.cuts.length (fun i => prA (pAt n.cuts i)) = n.cuts := toPL_pA _
    rw [e]
    refine ⟨cloneP_fun false n.cuts (by omega), delfP_fun n.cuts a b (by omega), shpK, ?_⟩
    exact post_net2 [15] rfl rfl (sm_st ⟨sm_same rfl, sm_dat' rfl (by simp) fun i hi => by rw [Nat.zero_add]; rfl, sm_int rfl, trivial⟩) rfl rfl rfl
end Go.Bu.W

