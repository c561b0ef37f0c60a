/- Elements by value, conversions, new slices. -/
import Derived.Test.YtoaefniopgmoaaaDoorK3
import Derived.Laws.MakeOwn
import Derived.Laws.IdiomStrings
import Derived.Laws.Cover3
import Derived.Laws.AppendOwn
namespace Go.Bu
section
variable {C : Ctx} {P : Program} {N : Nat} {D : Dom} {S : St} {ρ : Ren} {A : Nat → Prop} {a : Act} {w : World}
theorem op_index (K : CtxOK C P) (h : Rel C N D S ρ A a w) {t d : Nat} {x y : Operand} {b : Bool} {e : Eff} (he : opEff C S d b (.index t x y) = some e) (hob : AllP e.ob) :
  Done S ρ A w e ((do pure (.value (← Instr.index t (a.eval x) (a.eval y))) : Sem Next).run P w) := by
 simp only [opEff] at he
 split at he
 ·-- an array
  rename_i n e0 f k i m et st hx hy hd
  have htd := K.td t
  rw [hd] at htd
  simp only [tdOK] at htd
  split at he
  ·rename_i h1 h2 hf
   cases he
   have hi : 0 ≤ i ∧ i < n := hob _ (by simp)
   have hiv := rep_int (h.val hy)
   have hr : RV w A ρ (.arr n e0 f) (a.eval x) := (h.val hx).rv fun l e => by cases e
   rcases hr with ⟨hl, _⟩ | ⟨_, vs, e1, hr⟩
   ·cases hl
   ·obtain ⟨pre, us, post, e2, e3, e4⟩ := Rep.part [i.toNat] hr (by simp [AV.vp]; omega) (x := f i.toNat) (by simp [AV.sub])
    have e3' : pre.length = i.toNat * (C.tt et).size := by rw [e3]; simp [AV.off, beq_iff.1 h1]
    obtain ⟨v, h5, h6⟩ := run_part (w := w) (cs := vs.toArray) K hf (by simpa using e2) e3' e4
    refine Done.pure h (v := v) ?_ h6.rt rfl rfl
    have hnm := beq_iff.1 h2
    simp [Instr.index, hiv, asIntOf, run_underlying htd, e1, run_sizeOf K (fits_known hf), h5, ← hnm, hi.1, hi.2]
  ·cases he
 ·rename_i fs k i m et st hx hy hd
  have htd := K.td t
  rw [hd] at htd
  simp only [tdOK] at htd
  split at he
  ·rename_i y hyy h2
   split at he
   ·rename_i hp hf
    cases he
    have hi : 0 ≤ i := hob _ (by simp)
    have hiv := rep_int (h.val hy)
    have hr : RV w A ρ (.st fs) (a.eval x) := (h.val hx).rv fun l e => by cases e
    rcases hr with ⟨hl, _⟩ | ⟨_, vs, e1, hr⟩
    ·cases hl
    ·obtain ⟨pre, us, post, e2, e3, e4⟩ := st_part hr hyy
     obtain ⟨v, h5, h6⟩ := run_part (w := w) (cs := vs.toArray) K hf (by simpa using e2) (e3.trans (beq_iff.1 hp)) e4
     refine Done.pure h (v := v) ?_ h6.rt rfl rfl
     have hnm := beq_iff.1 h2
     have hlt := nth?_lt hyy
     have hi2 : i < m := by omega
     simp [Instr.index, hiv, asIntOf, run_underlying htd, e1, run_sizeOf K (fits_known hf), h5, hi, hi2]
   ·cases he
  ·cases he
 ·rename_i s k i hx hy hd
  cases he
  have htd := K.td t
  rw [hd] at htd
  simp only [tdOK] at htd
  have hi : 0 ≤ i ∧ i < s.size := hob _ (by simp)
  have hiv := rep_int (h.val hy)
  have hxv := rep_v ((h.val hx).leaf rfl)
  have hlt : i.toNat < s.size := by omega
  have hlt' : i.toNat < s.data.toList.length := by simpa using hlt
  refine Done.pure h (v := .int .u8 (s.data.toList.getD i.toNat 0).toNat) ?_ (.of_leaf rfl (.v rfl)) rfl rfl
  have hb : s[i.toNat]? = some (s.data.toList.getD i.toNat 0) := by
   rw [getElem?_pos s i.toNat hlt, List.getD_eq_getElem?_getD, List.getElem?_eq_getElem hlt']
   rfl
  simp [Instr.index, hiv, asIntOf, run_underlying htd, hxv, hi.1, hb]
 ·cases he
theorem foldl_bytes : ∀ (l : List Int) (r : ByteArray), l.foldl (fun r n => r.push (UInt8.ofNat n.toNat)) r = ⟨r.data ++ (l.map fun n => UInt8.ofNat n.toNat).toArray⟩
 | [], r => by simp
 | b :: l, r => by
  simp only [List.foldl_cons]
  rw [foldl_bytes l]
  simp [ByteArray.push]
theorem run_bytes {q : Option Addr} {n c : Nat} {f : Nat → AV} (he : Elems w A q n 1 f) (hb : ∀ i, i < n → isByte (f i)) : (Conv.bytesToString (.slice q n c)).run P w = .ok (.string (bytesOf n f)) w := by
 rcases he with rfl | ⟨b, o, g, rfl, hl, hm, hr⟩
 ·cases q with
  | none => simp [Conv.bytesToString, bytesOf]; rfl
  | some x => simp [Conv.bytesToString, bytesOf, loadCells, loadCellsFrom]; rfl
 ·have hg : ∀ i, i < n → g i = [Value.int .u8 (asI (f i))] := fun i hi => by
   have h1 := hb i hi
   have h2 := hr i hi
   have h3 := hl i hi
   unfold isByte at h1
   split at h1
   ·rename_i m hf
    rw [hf] at h2 ⊢
    generalize g i = gi at h2
    cases h2
    rfl
   ·exact h1.elim
  have hflat : flat n g = ((List.range n).map fun i => asI (f i)).map (Value.int .u8) := by
   clear hm
   induction n with
   | zero => rfl
   | succ n ih =>
    rw [flat, ih (fun i hi => hb i (by omega)) (fun i hi => hl i (by omega)) (fun i hi => hr i (by omega)) (fun i hi => hg i (by omega)), hg n (by omega), List.range_succ]
    simp
  have hld := run_loadCells_list (P := P) w ⟨b, o, none⟩ (flat n g) fun j v hj => by
   have hlt := (List.getElem?_eq_some_iff.1 hj).1
   rw [flat_len hl] at hlt
   obtain ⟨h1, h2, h3⟩ := flat_get hl hlt
   rw [h1] at hj
   rw [addr_add, ← hj, ← hm _ _ h2 h3]
   congr 2
   have h4 := Nat.div_add_mod j 1
   omega
  rw [flat_len hl, Nat.mul_one, hflat] at hld
  rw [run_bytesToString w ⟨b, o, none⟩ n c _ hld, foldl_bytes]
  have hw : (List.map (fun n => UInt8.ofNat n.toNat) (List.map (fun i => asI (f i)) (List.range n))) = (List.range n).map fun i => asByte (f i) := by
   rw [List.map_map]
   apply List.map_congr_left
   intro i hi
   have h1 := hb i (List.mem_range.1 hi)
   unfold isByte at h1
   split at h1
   ·rename_i m hf; simp [hf, asI, asByte]
   ·exact h1.elim
  rw [hw]
  simp [bytesOf]
theorem flat_str (s : ByteArray) : flat s.size (fun i => [Value.int .u8 (s.data.toList.getD i 0).toNat]) = s.data.toList.map fun b => Value.int .u8 b.toNat := by
 have : ∀ n, n ≤ s.size → flat n (fun i => [Value.int .u8 (s.data.toList.getD i 0).toNat]) = ((s.data.toList.take n).map fun b => Value.int .u8 b.toNat) := by
  intro n
  induction n with
  | zero => intro _; simp [flat]
  | succ n ih =>
   intro hn
   have hlt : n < s.data.toList.length := by have : s.data.size = s.size := rfl; simp; omega
   rw [flat, ih (by omega), List.take_add_one, List.map_append, List.getElem?_eq_getElem hlt, List.getD_eq_getElem?_getD, List.getElem?_eq_getElem hlt]
   simp
 have h2 := this s.size (Nat.le_refl _)
 rw [List.take_of_length_le (by simp)] at h2
 exact h2
theorem Evo.setF (w : World) (A O O' : Nat → Prop) {b : Nat} {cs cs' : Array Value} {el : TypeId} {fz fz2 : Nat × Nat} (hb : w.heap[b]? = some (.cells cs el fz)) (hs : cs'.size = cs.size) (ho : O b) (hO : ∀ b, O' b → O b ∨ w.heap.size ≤ b) :
  Evo w A O (setBlk w b (.cells cs' el fz2)) A O' where
 size := by simp [setBlk]
 os := rfl
 tape := rfl
 output := rfl
 keep b' _ hn := setBlk_other fun e => hn (e ▸ ho)
 cells b' c e fz' h := by
  by_cases eb : b' = b
  ·subst eb
   rw [hb] at h; cases h
   exact ⟨cs', fz2, setBlk_same hb, hs⟩
  ·exact ⟨c, fz', by rw [setBlk_other eb]; exact h, rfl⟩
 stay _ h := h
 Anew _ h := .inl h
 Onew := hO
theorem Done.setF (h : Rel C N D S ρ A a w) {e : Eff} {res : Result Next} {id : Nat} {l : Loc} {t t' : AV} {cs cs' : Array Value} {el : TypeId} {fz fz2 : Nat × Nat} {vs' rest : List Value} {nx : Next} {v : Value}
  (hl : look S.hp id = some (.c t)) (hρ : ρ id = some l) (hb : w.heap[l.b]? = some (.cells cs el fz)) (hfz : fz2.1 = fz2.2 ∨ (cs.size ≤ fz2.1 ∧ row1 t' = true)) (hs : cs'.size = cs.size)
  (hc : cs'.toList = vs' ++ rest) (hr : Rep w A ρ t' vs') (hnr : ∀ x, x ∈ rest → nota x = true) (hsh : SameShape t t')
  (hres : res = .ok nx (setBlk w l.b (.cells cs' el fz2))) (hnx : nx = .value v ∨ (nx = .skip ∧ v = undef)) (hw : e.wr = [(id, .c t')]) (hd : e.dead = [])
  (hv : Keeps w A ρ (setBlk w l.b (.cells cs' el fz2)) A ρ → RT (setBlk w l.b (.cells cs' el fz2)) A ρ e.v v) : Done S ρ A w e res := by
 have hh : ∀ i, look (hpAfter S.hp e) i = if id = i then some (.c t') else look S.hp i := fun i => by simp [hpAfter, hw, hd, putAll, look_dropAll, memb, look_put]
 have hne : ∀ i, look (hpAfter S.hp e) i ≠ none → look S.hp i ≠ none := fun i hi => by
  rw [hh] at hi; split at hi
  ·rename_i ei; subst ei; rw [hl]; simp
  ·exact hi
 have hO : ∀ b, own ρ (hpAfter S.hp e) b → own ρ S.hp b ∨ w.heap.size ≤ b := by
  rintro b ⟨i, l', h1, h2, rfl⟩; exact .inl ⟨i, l', hne i h1, h2, rfl⟩
 have evo : Evo w A (own ρ S.hp) (setBlk w l.b (.cells cs' el fz2)) A (own ρ (hpAfter S.hp e))   := .setF w A _ _ hb hs ⟨id, l, by rw [hl]; simp, hρ, rfl⟩ hO
 have kp := h.keeps evo fun _ _ h => h
 refine ⟨nx, v, ρ, A, _, hres, hnx, hv kp, ⟨fun i k' hk' => ?_, fun i i' l1 l2 h1 h2 => h.hp.inj i i' l1 l2 (hne i h1) (hne i' h2), fun i l1 h1 => h.hp.apart i l1 (hne i h1)⟩, fun _ _ h => h, fun i l1 hi => ?_, fun b hb => Nat.lt_of_lt_of_le (h.Ab b hb) evo.size, fun i hi => memb_addSeen.2 (.inl (h.sn i (hne i hi))), evo⟩
 ·rw [hh] at hk'
  split at hk'
  ·rename_i ei; subst ei; cases hk'
   refine .inl ⟨l, hρ, ⟨cs', el, fz2, vs', rest, setBlk_same hb, hfz.imp_right fun q => ⟨by omega, q.2⟩, hc, hr.keep kp, hnr⟩, fun t'' ht => ?_⟩
   cases ht
   rcases h.hp.blk id _ hl with ⟨l0, h1, _, h3⟩ | ⟨h1, _⟩
   ·rw [hρ] at h1; cases h1; exact (h3 t rfl).trans hsh
   ·rw [hρ] at h1; cases h1
  ·rename_i ei
   rcases h.hp.blk i k' hk' with ⟨l0, h1, h2, h3⟩ | h1
   ·refine .inl ⟨l0, h1, ?_, h3⟩
    have hb' : l0.b ≠ l.b := fun e => ei (h.hp.inj id i l l0 (by rw [hl]; simp) (by rw [hk']; simp) hρ h1 e.symm)
    cases k' with
    | m => exact h2.elim
    | c t0 =>
     obtain ⟨cs0, el0, fz0, vs0, rest0, e1, e2, e3, e4, e5⟩ := h2
     exact ⟨cs0, el0, fz0, vs0, rest0, by rw [setBlk_other hb']; exact e1, e2, e3, e4.keep kp, e5⟩
   ·exact .inr h1
 ·obtain ⟨h1, h2⟩ := h.rb i l1 hi
  exact ⟨Nat.lt_of_lt_of_le h1 evo.size, memb_addSeen.2 (.inl h2)⟩
theorem op_convert (K : CtxOK C P) (h : Rel C N D S ρ A a w) {src dst d : Nat} {x : Operand} {b : Bool} {e : Eff} (he : opEff C S d b (.convert src dst x) = some e) (hob : AllP e.ob) :
  Done S ρ A w e ((do pure (.value (← convert src dst (a.eval x))) : Sem Next).run P w) := by
 simp only [opEff] at he
 split at he
 ·rename_i xv hx
  have hsrc : (C.tt src).d.known = true → ∃ ds, P.underlying src = some ds := fun hk => by
   have := K.td src
   cases hd : (C.tt src).d <;> simp only [hd, tdOK, TD.known] at this hk <;> first
    | exact ⟨_, this⟩
    | (obtain ⟨_, h1, _⟩ := this; exact ⟨_, h1⟩)
    | (obtain ⟨_, _, _, h1⟩ := this; exact ⟨_, h1⟩)
    | (obtain ⟨_, h1⟩ := this; exact ⟨_, h1⟩)
    | cases hk
  have htd := K.td dst
  unfold convEff at he
  split at he
  ·rename_i k k' n hk hd
   rw [hd] at htd; simp only [tdOK] at htd
   obtain ⟨ds, hs⟩ := hsrc hk
   have hv := rep_int (h.val hx)
   split at he
   ·rename_i hk64
    cases he
    obtain rfl := kEq_iff.1 hk64
    have hi : I64 n := hob _ (by simp)
    exact Done.pure h (v := .int .i64 n) (by simp [hv, convert, run_underlying hs, run_underlying htd, Conv.intToInt, wrap_i64 hi]) (.of_leaf rfl (.v rfl)) rfl rfl
   ·cases he
    exact Done.pure h (v := .int k (k.wrap n)) (by simp [hv, convert, run_underlying hs, run_underlying htd, Conv.intToInt]) (.of_leaf rfl (.v rfl)) rfl rfl
  ·rename_i s hk hd
   cases he
   rw [hd] at htd; simp only [tdOK] at htd
   obtain ⟨ds, hs⟩ := hsrc hk
   have hv := rep_v ((h.val hx).leaf rfl)
   exact Done.pure h (v := .string s) (by simp [hv, convert, run_underlying hs, run_underlying htd]) (.of_leaf rfl (.v rfl)) rfl rfl
  ·rename_i et s hk hd
   rw [hd] at htd; simp only [tdOK] at htd
   split at he
   ·rename_i id hid hde hds
    cases he
    have h1 := K.td src
    have h2 := K.td et
    rw [hds] at h1; rw [hde] at h2
    simp only [tdOK] at h1 h2
    have hv := rep_v ((h.val hx).leaf rfl)
    have hrun := run_bytes_of_string w src dst et s h1 htd h2
    have hdr : w.drew = drawnTo w (w.drawn + 1) := rfl
    refine Done.drawn (k := w.drawn + 1) ?_
    have hh := h.drawn (w.drawn + 1)
    generalize hcap : grownCap w s.size 0 et = cap at hrun
    have hge : s.size ≤ cap := by
     rw [← hcap]
     exact grownCap_ge w s.size 0 et
    refine Done.new hh (newId_fresh hid) (o := .cells (bytesRow s cap) et ((bytesRow s cap).size, (bytesRow s cap).size + 1)) (v := .slice (some ⟨w.heap.size, 0, none⟩) s.size cap) (t := .arr s.size 1 (fun i => .v (.int .u8 (s.data.toList.getD i 0).toNat)))
     ?_ rfl rfl fun ρ' hid' hext kp => ⟨⟨bytesRow s cap, et, _, (s.data.toList.map fun b => Value.int .u8 b.toNat), List.replicate (cap - s.size) (.int .u8 0), pushed_new _ _, .inr ⟨Nat.le_refl _, rfl⟩, by simp [bytesRow], ?_, fun x hx => by rw [List.eq_of_mem_replicate hx]; rfl⟩, fun t' ht => by cases ht; exact .refl _, .of_leaf rfl ?_⟩
    ·rw [hv]
     simp only [Sem.run_bind, hrun, Result.andThen_ok]
     rfl
    ·refine .arr (fun i => [Value.int .u8 (s.data.toList.getD i 0).toNat]) (fun _ _ => rfl) (fun i _ => .v rfl) ?_
     exact (flat_str s).symm
    ·have := Rep.sl (w := pushed (drawnTo w (w.drawn + 1)) (.cells (bytesRow s cap) et ((bytesRow s cap).size, (bytesRow s cap).size + 1))) (A := A) (ρ := ρ') (p := []) (o := 0) (n := s.size) (c := s.size) (ex := false) (e := 1) (rc := cap) hid' (Nat.le_refl _) hge (fun h => by cases h) (by simpa using row_arr _ _ _)
      ⟨bytesRow s cap, et, _, pushed_new _ _, by have : s.data.size = s.size := rfl; simp [bytesRow, off_nil]; omega⟩
     simpa [off_nil, drawnTo] using this
   ·cases he
  ·rename_i et id p o n c ex es hk hd
   rw [hd] at htd; simp only [tdOK] at htd
   split at he
   ·rename_i et' b0 hds hde hsd hb
    split at he
    ·cases he
    rename_i hb1
    cases he
    have h1 := K.td src
    have h2 := K.td et
    rw [hds] at h1; rw [hde] at h2
    simp only [tdOK] at h1 h2
    obtain rfl := beq_iff.1 hsd
    rw [h1] at htd
    cases htd
    have hc0 : 0 < c := hob _ (by simp)
    have hr := (h.val hx).leaf rfl
    generalize hu : a.eval x = u at hr
    cases hr with
    | sl0 => omega
    | sl hρ g1 g2 g3 g4 g5 =>
     rename_i k rc
     rcases h.hp.blk id _ hb with ⟨l, q1, q2, q3⟩ | ⟨q1, _⟩
     ·rw [hρ] at q1; cases q1
      obtain ⟨cs, el, fz, vs, rest, e1, e2, e3, e4, e5⟩ := q2
      have hsh : w.shape? k.b = some (el, cs.size) := by simp [World.shape?, e1]
      refine Done.setF (fz2 := if fz.1 == fz.2 then (cs.size, cs.size + 1) else (min fz.1 cs.size, max fz.2 (cs.size + 1))) (v := .slice (some ⟨k.b, k.t.off p + o * es, none⟩) n rc) (cs := cs) (cs' := cs) h hb hρ e1 ?_ rfl e3 e4 e5 (.refl _) ?_ (.inl rfl) rfl rfl fun kp => .of_leaf rfl ?_
      ·split
       ·exact .inr ⟨Nat.le_refl _, hb1⟩
       ·rename_i hf
        rcases e2 with e2 | e2
        ·simp [e2] at hf
        ·refine .inr ⟨?_, hb1⟩
         have e2 := e2.1
         show cs.size ≤ min fz.1 cs.size
         omega
      ·simp only [convert, Sem.run_bind, run_underlying h1, run_underlying h2, Result.andThen_ok, beq_self_eq_true, markStringish, run_shape, hsh, run_freeze, Sem.run_pure]
       congr 1
       simp only [World.freeze, setBlk]
       rw [if_neg (show ¬ (1 = 0) by decide)]
       congr 1
       apply Array.ext_getElem?
       intro i
       rw [Array.getElem?_modify, Array.getElem?_setIfInBounds]
       by_cases hi : k.b = i
       ·subst hi
        have hlt : k.b < w.heap.size := by
         rcases Nat.lt_or_ge k.b w.heap.size with h' | h'
         ·exact h'
         ·rw [Array.getElem?_eq_none h'] at e1; cases e1
        rw [if_pos rfl, if_pos rfl, if_pos hlt, e1]
        rfl
       ·rw [if_neg hi, if_neg hi]
      ·exact (Rep.sl hρ g1 g2 g3 g4 g5).keep kp
     ·rw [hρ] at q1; cases q1
   ·cases he
  ·rename_i y _ _ _ hk hd hny
   rw [hd] at htd; simp only [tdOK] at htd
   split at he
   ·rename_i et hds
    have h1 := K.td src
    rw [hds] at h1; simp only [tdOK] at h1
    split at he
    ·rename_i n e1 f rd hdat hde
     have h2 := K.td et
     rw [hde] at h2; simp only [tdOK] at h2
     split at he
     ·rename_i he1
      cases he
      obtain ⟨q, c, hq, hc, hel⟩ := h.data hdat (h.val hx)
      have hb : ∀ i, i < n → isByte (f i) := hob _ (by simp)
      rw [beq_iff.1 he1] at hel
      exact Done.pure h (v := .string (bytesOf n f)) (by rw [hq]; simp only [Sem.run_bind, run_convert_bytes_string w src dst et q n c h1 h2 htd, run_bytes hel hb, Result.andThen_ok]; rfl) (.of_leaf rfl (.v rfl)) rfl rfl
     ·cases he
    ·cases he
   ·cases he
  ·cases he
 ·cases he
theorem made_flat (z : Array Value) (e n : Nat) (he : z.size = e) : (madeCells z (n * e)).toList = flat n (fun _ => z.toList) := by
 have hl : ∀ i, i < n → ((fun _ : Nat => z.toList) i).length = e := fun _ _ => by simpa using he
 apply List.ext_getElem?
 intro k
 by_cases hk : k < n * e
 ·obtain ⟨h1, h2, h3⟩ := flat_get hl hk
  rw [h1]
  have hm : k % e < z.size := by omega
  simp only [madeCells, Array.toList_map, Array.toList_range, List.getElem?_map, List.getElem?_range hk, Option.map_some]
  rw [he, Array.getElem?_toList, Array.getElem?_eq_getElem hm, getElem!_pos z (k % e) hm]
 ·rw [List.getElem?_eq_none (by simp [size_madeCells]; omega), List.getElem?_eq_none (by rw [flat_len hl]; omega)]
theorem op_makeSlice (K : CtxOK C P) (h : Rel C N D S ρ A a w) {t d : Nat} {x y : Operand} {b : Bool} {e : Eff} (he : opEff C S d b (.makeSlice t x y) = some e) (hob : AllP e.ob) :
  Done S ρ A w e ((do pure (.value (← Instr.makeSlice t (a.eval x) (a.eval y))) : Sem Next).run P w) := by
 simp only [opEff] at he
 split at he
 ·rename_i k1 l k2 c et id hx hy hd hid
  have htd := K.td t
  rw [hd] at htd
  simp only [tdOK] at htd
  split at he
  ·rename_i hk
   cases he
   obtain ⟨i, z, h1, h2, h3, h4, h5, h6⟩ := K.info et hk
   have o1 : 0 ≤ l ∧ l ≤ c := hob _ (by simp)
   have o2 : ((C.tt et).bytes : Int) * c ≤ 281474976710656 ∧ c ≤ 9223372036854775807 := hob _ (by simp)
   have hrun := run_make (P := P) w t et i z htd h1 h4 k1 k2 l c o1.1 o1.2 (by rw [h3]; exact o2.1) o2.2
   rw [← rep_int (h.val hx), ← rep_int (h.val hy), h2] at hrun
   have hzc : ∀ (w : World) (A : Nat → Prop) (ρ : Ren), Rep w A ρ (zeroAV C.tt 9 et) z.cells.toList := fun w A ρ => (h5 w A ρ).cells
   have hzs : z.cells.size = (C.tt et).size := by
    have := (hzc w A ρ).len
    rw [fits_size h6] at this
    simpa using this
   have hflat := made_flat z.cells (C.tt et).size c.toNat hzs
   refine Done.new h (newId_fresh hid) (o := .cells (madeCells z.cells (c.toNat * (C.tt et).size)) et (0, 0)) (v := .slice (some ⟨w.heap.size, 0, none⟩) l.toNat c.toNat) (t := .arr c.toNat (C.tt et).size (fun _ => zeroAV C.tt 9 et))
    (by simp only [Sem.run_bind, hrun, Result.andThen_ok]; rfl) rfl rfl fun ρ' hid' hext kp => ⟨⟨_, et, _, (madeCells z.cells (c.toNat * (C.tt et).size)).toList, [], pushed_new _ _, .inl rfl, by simp, ?_, fun _ h => by cases h⟩, fun t' ht => by cases ht; exact .refl _, .of_leaf rfl ?_⟩
   ·exact .arr (fun _ => z.cells.toList) (fun _ _ => by simpa using hzs) (fun i _ => hzc _ _ _) hflat
   ·have := Rep.sl (w := pushed w (.cells (madeCells z.cells (c.toNat * (C.tt et).size)) et (0, 0))) (A := A) (ρ := ρ') (p := []) (o := 0) (n := l.toNat) (c := c.toNat) (ex := true) (e := (C.tt et).size) (rc := c.toNat) hid' (by omega) (Nat.le_refl _) (fun _ => rfl) (by simpa using row_arr _ _ _)
     ⟨_, et, _, pushed_new _ _, by simp [size_madeCells, off_nil]⟩
    simpa [off_nil] using this
  ·cases he
 ·cases he
theorem op_arrayAt (K : CtxOK C P) (h : Rel C N D S ρ A a w) {t d : Nat} {x : Operand} {b : Bool} {e : Eff} (he : opEff C S d b (.sliceToArrayPointer t x) = some e) (hob : AllP e.ob) :
  Done S ρ A w e ((do pure (.value (← Instr.arrayAt t (a.eval x))) : Sem Next).run P w) := by
 simp only [opEff] at he
 split at he
 ·rename_i n ex e0 f m et st hx hd
  have htd := K.td t
  rw [hd] at htd
  simp only [tdOK] at htd
  split at he
  ·rename_i h1 h2
   cases he
   have o1 : m ≤ n := hob _ (by simp)
   have hm := Nat.le_of_ble_eq_true h1
   have hv := (h.val hx).leaf rfl
   generalize a.eval x = u at hv
   cases hv with
   | dat0 => omega
   | dat g ha hc hex hl hm hr =>
    rename_i bb oo c
    refine Done.pure h (v := .pointer (some ⟨bb, oo, none⟩)) ?_ (.of_leaf rfl (.pd (flat m g) ha (fun j hj => ?_) (.arr g (fun i hi => hl i (by omega)) (fun i hi => hr i (by omega)) rfl))) rfl rfl
    ·have hnn : ¬ n < m := by omega
     simp [Instr.arrayAt, run_underlying htd, hnn]
    ·have hl' : ∀ i, i < m → (g i).length = e0 := fun i hi => hl i (by omega)
     rw [flat_len hl'] at hj
     obtain ⟨q1, q2, q3⟩ := flat_get hl' hj
     rw [q1, ← hm _ _ (by omega) q3]
     congr 2
     have h4 := Nat.div_add_mod j e0
     rw [Nat.mul_comm] at h4
     omega
  ·cases he
 ·cases he
end
end Go.Bu

