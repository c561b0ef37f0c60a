/- The seat's types and variables, for the abstract machine. -/
import Derived.Test.YtoaefniopgmoaaaDoorK12
import Derived.Test.YtoaefniopgmoaaaDoorChecked
import Derived.Test.YtoaefniopgmoaaaDoorK11
namespace Go.Bu.W
def tys : List TI := [
 ⟨.other, 0, 0⟩,
 ⟨.func, 1, 8⟩,
 ⟨.int .i64, 1, 8⟩,
 ⟨.int .i64, 1, 8⟩,
 ⟨.bool, 1, 1⟩,
 ⟨.int .u8, 1, 1⟩,
 ⟨.int .u8, 1, 1⟩,
 ⟨.struct [(2, 0), (3, 1), (4, 2), (6, 3)], 4, 24⟩,
 ⟨.struct [(2, 0), (3, 1), (4, 2), (6, 3)], 4, 24⟩,
 ⟨.str, 1, 16⟩,
 ⟨.str, 1, 16⟩,
 ⟨.str, 1, 16⟩,
 ⟨.int .u64, 1, 8⟩,
 ⟨.other, 0, 0⟩,
 ⟨.other, 0, 0⟩,
 ⟨.ptr 121, 1, 8⟩,
 ⟨.ptr 124, 1, 8⟩,
 ⟨.ptr 134, 1, 8⟩,
 ⟨.other, 0, 0⟩,
 ⟨.other, 0, 0⟩,
 ⟨.iface, 1, 16⟩,
 ⟨.int .i32, 1, 4⟩,
 ⟨.slice 31, 1, 24⟩,
 ⟨.func, 1, 8⟩,
 ⟨.slice 60, 1, 24⟩,
 ⟨.slice 62, 1, 24⟩,
 ⟨.struct [(24, 0), (25, 1)], 2, 48⟩,
 ⟨.struct [(24, 0), (25, 1)], 2, 48⟩,
 ⟨.slice 5, 1, 24⟩,
 ⟨.slice 4, 1, 24⟩,
 ⟨.struct [(5, 0), (5, 1), (5, 2), (28, 3), (29, 4)], 5, 56⟩,
 ⟨.struct [(5, 0), (5, 1), (5, 2), (28, 3), (29, 4)], 5, 56⟩,
 ⟨.int .i64, 1, 8⟩,
 ⟨.struct [(27, 0), (32, 2)], 3, 56⟩,
 ⟨.struct [(27, 0), (32, 2)], 3, 56⟩,
 ⟨.func, 1, 8⟩,
 ⟨.func, 1, 8⟩,
 ⟨.func, 1, 8⟩,
 ⟨.func, 1, 8⟩,
 ⟨.func, 1, 8⟩,
 ⟨.array 2 3 false, 2, 16⟩,
 ⟨.func, 1, 8⟩,
 ⟨.func, 1, 8⟩,
 ⟨.func, 1, 8⟩,
 ⟨.func, 1, 8⟩,
 ⟨.func, 1, 8⟩,
 ⟨.func, 1, 8⟩,
 ⟨.struct [(28, 0), (32, 1)], 2, 32⟩,
 ⟨.struct [(28, 0), (32, 1)], 2, 32⟩,
 ⟨.func, 1, 8⟩,
 ⟨.func, 1, 8⟩,
 ⟨.func, 1, 8⟩,
 ⟨.slice 40, 1, 24⟩,
 ⟨.func, 1, 8⟩,
 ⟨.func, 1, 8⟩,
 ⟨.func, 1, 8⟩,
 ⟨.func, 1, 8⟩,
 ⟨.array 32 5 false, 32, 32⟩,
 ⟨.array 32 5 false, 32, 32⟩,
 ⟨.struct [(3, 0), (3, 1), (28, 2), (58, 3)], 35, 72⟩,
 ⟨.struct [(3, 0), (3, 1), (28, 2), (58, 3)], 35, 72⟩,
 ⟨.struct [(4, 0), (60, 1)], 36, 80⟩,
 ⟨.struct [(4, 0), (60, 1)], 36, 80⟩,
 ⟨.func, 1, 8⟩,
 ⟨.array 3 5 false, 3, 3⟩,
 ⟨.func, 1, 8⟩,
 ⟨.func, 1, 8⟩,
 ⟨.func, 1, 8⟩,
 ⟨.func, 1, 8⟩,
 ⟨.func, 1, 8⟩,
 ⟨.func, 1, 8⟩,
 ⟨.array 2 5 false, 2, 2⟩,
 ⟨.array 2 28 false, 2, 48⟩,
 ⟨.func, 1, 8⟩,
 ⟨.other, 0, 0⟩,
 ⟨.func, 1, 8⟩,
 ⟨.slice 3, 1, 24⟩,
 ⟨.func, 1, 8⟩,
 ⟨.func, 1, 8⟩,
 ⟨.func, 1, 8⟩,
 ⟨.func, 1, 8⟩,
 ⟨.func, 1, 8⟩,
 ⟨.func, 1, 8⟩,
 ⟨.func, 1, 8⟩,
 ⟨.func, 1, 8⟩,
 ⟨.func, 1, 8⟩,
 ⟨.func, 1, 8⟩,
 ⟨.func, 1, 8⟩,
 ⟨.other, 0, 0⟩,
 ⟨.func, 1, 8⟩,
 ⟨.func, 1, 8⟩,
 ⟨.int .u64, 1, 8⟩,
 ⟨.array 5 91 false, 5, 40⟩,
 ⟨.array 5 92 false, 25, 200⟩,
 ⟨.array 24 91 false, 24, 192⟩,
 ⟨.func, 1, 8⟩,
 ⟨.int .u64, 1, 8⟩,
 ⟨.func, 1, 8⟩,
 ⟨.func, 1, 8⟩,
 ⟨.func, 1, 8⟩,
 ⟨.func, 1, 8⟩,
 ⟨.func, 1, 8⟩,
 ⟨.func, 1, 8⟩,
 ⟨.other, 0, 0⟩,
 ⟨.func, 1, 8⟩,
 ⟨.func, 1, 8⟩,
 ⟨.func, 1, 8⟩,
 ⟨.func, 1, 8⟩,
 ⟨.func, 1, 8⟩,
 ⟨.array 25 3 false, 25, 200⟩,
 ⟨.func, 1, 8⟩,
 ⟨.array 25 91 false, 25, 200⟩,
 ⟨.array 25 91 false, 25, 200⟩,
 ⟨.func, 1, 8⟩,
 ⟨.func, 1, 8⟩,
 ⟨.func, 1, 8⟩,
 ⟨.func, 1, 8⟩,
 ⟨.func, 1, 8⟩,
 ⟨.func, 1, 8⟩,
 ⟨.func, 1, 8⟩,
 ⟨.other, 0, 0⟩,
 ⟨.other, 0, 0⟩,
 ⟨.other, 0, 0⟩,
 ⟨.other, 0, 0⟩,
 ⟨.other, 0, 0⟩,
 ⟨.func, 1, 8⟩,
 ⟨.int .u32, 1, 4⟩,
 ⟨.int .u8, 1, 1⟩,
 ⟨.int .u8, 1, 1⟩,
 ⟨.func, 1, 8⟩,
 ⟨.ptr 5, 1, 8⟩,
 ⟨.int .i32, 1, 4⟩,
 ⟨.int .i32, 1, 4⟩,
 ⟨.other, 0, 0⟩,
 ⟨.other, 0, 0⟩,
 ⟨.other, 0, 0⟩]
def wordsAV : AV := .arr 24 1 (fun i => u64 (Sp.wordsN i))
def gls (g : Nat) : Option AV := match g with | 0 => some wordsAV | _ => none
def C : Ctx := ⟨ttOf tys, gls⟩
noncomputable abbrev P : Program := Proofs.Tryd.prog
set_option maxRecDepth 100000 in
theorem ctx : CtxOK C P := ctx_ok (by kernel_rfl) (by kernel_rfl) (by kernel_rfl) (by kernel_rfl)
theorem mixed : P.follows .mixedOrders = true := Checked.mixed Proofs.Tryd.checked
end Go.Bu.W
namespace Go.Bu.W
abbrev F_lsm : Nat := 9
noncomputable def b_lsm : Code := Proofs.Tryd.f9.body.getD .skip
theorem in_lsm {W : Way} (hW : W.nt = 185) {args : List AV} {H : List (Nat × Blk)} {r : AV} {H' : List (Nat × Blk)} (k : Nat) (hl : args.length ≤ 185) (hno : noTups args = true) (hk : ∀ id, look H id ≠ none → id < k)
  (hv : ∀ D, Holds C P 185 D k (FunPost C 185 k [.tmp 6] r H') (vc C W b_lsm [] (start args H) lf)) : Fun C P F_lsm args H r H' := by
 refine fun_of (W := W) ctx mixed (fn := Proofs.Tryd.f9) (c := b_lsm) Proofs.Tryd.func9 (by kernel_rfl) (by kernel_rfl) (by kernel_rfl) (by rw [hW]; kernel_rfl) (by rw [hW]; exact hl) hno k hk ?_
 rw [hW, show Proofs.Tryd.f9.results.toList = [.tmp 6] by kernel_rfl]
 exact hv
abbrev F_sanity : Nat := 11
noncomputable def b_sanity : Code := Proofs.Tryd.f11.body.getD .skip
theorem in_sanity {W : Way} (hW : W.nt = 121) {args : List AV} {H : List (Nat × Blk)} {r : AV} {H' : List (Nat × Blk)} (k : Nat) (hl : args.length ≤ 121) (hno : noTups args = true) (hk : ∀ id, look H id ≠ none → id < k)
  (hv : ∀ D, Holds C P 121 D k (FunPost C 121 k [.tmp 0] r H') (vc C W b_sanity [] (start args H) lf)) : Fun C P F_sanity args H r H' := by
 refine fun_of (W := W) ctx mixed (fn := Proofs.Tryd.f11) (c := b_sanity) Proofs.Tryd.func11 (by kernel_rfl) (by kernel_rfl) (by kernel_rfl) (by rw [hW]; kernel_rfl) (by rw [hW]; exact hl) hno k hk ?_
 rw [hW, show Proofs.Tryd.f11.results.toList = [.tmp 0] by kernel_rfl]
 exact hv
abbrev F_lput : Nat := 12
noncomputable def b_lput : Code := Proofs.Tryd.f12.body.getD .skip
theorem in_lput {W : Way} (hW : W.nt = 22) {args : List AV} {H : List (Nat × Blk)} {r : AV} {H' : List (Nat × Blk)} (k : Nat) (hl : args.length ≤ 22) (hno : noTups args = true) (hk : ∀ id, look H id ≠ none → id < k)
  (hv : ∀ D, Holds C P 22 D k (FunPost C 22 k [.cell 8 34] r H') (vc C W b_lput [] (start args H) lf)) : Fun C P F_lput args H r H' := by
 refine fun_of (W := W) ctx mixed (fn := Proofs.Tryd.f12) (c := b_lput) Proofs.Tryd.func12 (by kernel_rfl) (by kernel_rfl) (by kernel_rfl) (by rw [hW]; kernel_rfl) (by rw [hW]; exact hl) hno k hk ?_
 rw [hW, show Proofs.Tryd.f12.results.toList = [.cell 8 34] by kernel_rfl]
 exact hv
abbrev F_rid : Nat := 13
noncomputable def b_rid : Code := Proofs.Tryd.f13.body.getD .skip
theorem in_rid {W : Way} (hW : W.nt = 8) {args : List AV} {H : List (Nat × Blk)} {r : AV} {H' : List (Nat × Blk)} (k : Nat) (hl : args.length ≤ 8) (hno : noTups args = true) (hk : ∀ id, look H id ≠ none → id < k)
  (hv : ∀ D, Holds C P 8 D k (FunPost C 8 k [.tmp 2] r H') (vc C W b_rid [] (start args H) lf)) : Fun C P F_rid args H r H' := by
 refine fun_of (W := W) ctx mixed (fn := Proofs.Tryd.f13) (c := b_rid) Proofs.Tryd.func13 (by kernel_rfl) (by kernel_rfl) (by kernel_rfl) (by rw [hW]; kernel_rfl) (by rw [hW]; exact hl) hno k hk ?_
 rw [hW, show Proofs.Tryd.f13.results.toList = [.tmp 2] by kernel_rfl]
 exact hv
abbrev F_drop : Nat := 14
noncomputable def b_drop : Code := Proofs.Tryd.f14.body.getD .skip
theorem in_drop {W : Way} (hW : W.nt = 16) {args : List AV} {H : List (Nat × Blk)} {r : AV} {H' : List (Nat × Blk)} (k : Nat) (hl : args.length ≤ 16) (hno : noTups args = true) (hk : ∀ id, look H id ≠ none → id < k)
  (hv : ∀ D, Holds C P 16 D k (FunPost C 16 k [.cell 4 27] r H') (vc C W b_drop [] (start args H) lf)) : Fun C P F_drop args H r H' := by
 refine fun_of (W := W) ctx mixed (fn := Proofs.Tryd.f14) (c := b_drop) Proofs.Tryd.func14 (by kernel_rfl) (by kernel_rfl) (by kernel_rfl) (by rw [hW]; kernel_rfl) (by rw [hW]; exact hl) hno k hk ?_
 rw [hW, show Proofs.Tryd.f14.results.toList = [.cell 4 27] by kernel_rfl]
 exact hv
abbrev F_sync : Nat := 15
noncomputable def b_sync : Code := Proofs.Tryd.f15.body.getD .skip
theorem in_sync {W : Way} (hW : W.nt = 6) {args : List AV} {H : List (Nat × Blk)} {r : AV} {H' : List (Nat × Blk)} (k : Nat) (hl : args.length ≤ 6) (hno : noTups args = true) (hk : ∀ id, look H id ≠ none → id < k)
  (hv : ∀ D, Holds C P 6 D k (FunPost C 6 k [.cell 2 27] r H') (vc C W b_sync [] (start args H) lf)) : Fun C P F_sync args H r H' := by
 refine fun_of (W := W) ctx mixed (fn := Proofs.Tryd.f15) (c := b_sync) Proofs.Tryd.func15 (by kernel_rfl) (by kernel_rfl) (by kernel_rfl) (by rw [hW]; kernel_rfl) (by rw [hW]; exact hl) hno k hk ?_
 rw [hW, show Proofs.Tryd.f15.results.toList = [.cell 2 27] by kernel_rfl]
 exact hv
abbrev F_lrot : Nat := 16
noncomputable def b_lrot : Code := Proofs.Tryd.f16.body.getD .skip
theorem in_lrot {W : Way} (hW : W.nt = 22) {args : List AV} {H : List (Nat × Blk)} {r : AV} {H' : List (Nat × Blk)} (k : Nat) (hl : args.length ≤ 22) (hno : noTups args = true) (hk : ∀ id, look H id ≠ none → id < k)
  (hv : ∀ D, Holds C P 22 D k (FunPost C 22 k [.cell 6 34] r H') (vc C W b_lrot [] (start args H) lf)) : Fun C P F_lrot args H r H' := by
 refine fun_of (W := W) ctx mixed (fn := Proofs.Tryd.f16) (c := b_lrot) Proofs.Tryd.func16 (by kernel_rfl) (by kernel_rfl) (by kernel_rfl) (by rw [hW]; kernel_rfl) (by rw [hW]; exact hl) hno k hk ?_
 rw [hW, show Proofs.Tryd.f16.results.toList = [.cell 6 34] by kernel_rfl]
 exact hv
abbrev F_crash : Nat := 17
noncomputable def b_crash : Code := Proofs.Tryd.f17.body.getD .skip
theorem in_crash {W : Way} (hW : W.nt = 14) {args : List AV} {H : List (Nat × Blk)} {r : AV} {H' : List (Nat × Blk)} (k : Nat) (hl : args.length ≤ 14) (hno : noTups args = true) (hk : ∀ id, look H id ≠ none → id < k)
  (hv : ∀ D, Holds C P 14 D k (FunPost C 14 k [.cell 4 27] r H') (vc C W b_crash [] (start args H) lf)) : Fun C P F_crash args H r H' := by
 refine fun_of (W := W) ctx mixed (fn := Proofs.Tryd.f17) (c := b_crash) Proofs.Tryd.func17 (by kernel_rfl) (by kernel_rfl) (by kernel_rfl) (by rw [hW]; kernel_rfl) (by rw [hW]; exact hl) hno k hk ?_
 rw [hW, show Proofs.Tryd.f17.results.toList = [.cell 4 27] by kernel_rfl]
 exact hv
abbrev F_rvalid : Nat := 18
noncomputable def b_rvalid : Code := Proofs.Tryd.f18.body.getD .skip
theorem in_rvalid {W : Way} (hW : W.nt = 52) {args : List AV} {H : List (Nat × Blk)} {r : AV} {H' : List (Nat × Blk)} (k : Nat) (hl : args.length ≤ 52) (hno : noTups args = true) (hk : ∀ id, look H id ≠ none → id < k)
  (hv : ∀ D, Holds C P 52 D k (FunPost C 52 k [.tmp 2] r H') (vc C W b_rvalid [] (start args H) lf)) : Fun C P F_rvalid args H r H' := by
 refine fun_of (W := W) ctx mixed (fn := Proofs.Tryd.f18) (c := b_rvalid) Proofs.Tryd.func18 (by kernel_rfl) (by kernel_rfl) (by kernel_rfl) (by rw [hW]; kernel_rfl) (by rw [hW]; exact hl) hno k hk ?_
 rw [hW, show Proofs.Tryd.f18.results.toList = [.tmp 2] by kernel_rfl]
 exact hv
abbrev F_valid : Nat := 19
noncomputable def b_valid : Code := Proofs.Tryd.f19.body.getD .skip
theorem in_valid {W : Way} (hW : W.nt = 87) {args : List AV} {H : List (Nat × Blk)} {r : AV} {H' : List (Nat × Blk)} (k : Nat) (hl : args.length ≤ 87) (hno : noTups args = true) (hk : ∀ id, look H id ≠ none → id < k)
  (hv : ∀ D, Holds C P 87 D k (FunPost C 87 k [.tmp 2] r H') (vc C W b_valid [] (start args H) lf)) : Fun C P F_valid args H r H' := by
 refine fun_of (W := W) ctx mixed (fn := Proofs.Tryd.f19) (c := b_valid) Proofs.Tryd.func19 (by kernel_rfl) (by kernel_rfl) (by kernel_rfl) (by rw [hW]; kernel_rfl) (by rw [hW]; exact hl) hno k hk ?_
 rw [hW, show Proofs.Tryd.f19.results.toList = [.tmp 2] by kernel_rfl]
 exact hv
abbrev F_made : Nat := 20
noncomputable def b_made : Code := Proofs.Tryd.f20.body.getD .skip
theorem in_made {W : Way} (hW : W.nt = 26) {args : List AV} {H : List (Nat × Blk)} {r : AV} {H' : List (Nat × Blk)} (k : Nat) (hl : args.length ≤ 26) (hno : noTups args = true) (hk : ∀ id, look H id ≠ none → id < k)
  (hv : ∀ D, Holds C P 26 D k (FunPost C 26 k [.cell 4 27] r H') (vc C W b_made [] (start args H) lf)) : Fun C P F_made args H r H' := by
 refine fun_of (W := W) ctx mixed (fn := Proofs.Tryd.f20) (c := b_made) Proofs.Tryd.func20 (by kernel_rfl) (by kernel_rfl) (by kernel_rfl) (by rw [hW]; kernel_rfl) (by rw [hW]; exact hl) hno k hk ?_
 rw [hW, show Proofs.Tryd.f20.results.toList = [.cell 4 27] by kernel_rfl]
 exact hv
abbrev F_swrote : Nat := 21
noncomputable def b_swrote : Code := Proofs.Tryd.f21.body.getD .skip
theorem in_swrote {W : Way} (hW : W.nt = 17) {args : List AV} {H : List (Nat × Blk)} {r : AV} {H' : List (Nat × Blk)} (k : Nat) (hl : args.length ≤ 17) (hno : noTups args = true) (hk : ∀ id, look H id ≠ none → id < k)
  (hv : ∀ D, Holds C P 17 D k (FunPost C 17 k [.tmp 4] r H') (vc C W b_swrote [] (start args H) lf)) : Fun C P F_swrote args H r H' := by
 refine fun_of (W := W) ctx mixed (fn := Proofs.Tryd.f21) (c := b_swrote) Proofs.Tryd.func21 (by kernel_rfl) (by kernel_rfl) (by kernel_rfl) (by rw [hW]; kernel_rfl) (by rw [hW]; exact hl) hno k hk ?_
 rw [hW, show Proofs.Tryd.f21.results.toList = [.tmp 4] by kernel_rfl]
 exact hv
abbrev F_rsame : Nat := 22
noncomputable def b_rsame : Code := Proofs.Tryd.f22.body.getD .skip
theorem in_rsame {W : Way} (hW : W.nt = 57) {args : List AV} {H : List (Nat × Blk)} {r : AV} {H' : List (Nat × Blk)} (k : Nat) (hl : args.length ≤ 57) (hno : noTups args = true) (hk : ∀ id, look H id ≠ none → id < k)
  (hv : ∀ D, Holds C P 57 D k (FunPost C 57 k [.tmp 4] r H') (vc C W b_rsame [] (start args H) lf)) : Fun C P F_rsame args H r H' := by
 refine fun_of (W := W) ctx mixed (fn := Proofs.Tryd.f22) (c := b_rsame) Proofs.Tryd.func22 (by kernel_rfl) (by kernel_rfl) (by kernel_rfl) (by rw [hW]; kernel_rfl) (by rw [hW]; exact hl) hno k hk ?_
 rw [hW, show Proofs.Tryd.f22.results.toList = [.tmp 4] by kernel_rfl]
 exact hv
abbrev F_lget : Nat := 23
noncomputable def b_lget : Code := Proofs.Tryd.f23.body.getD .skip
theorem in_lget {W : Way} (hW : W.nt = 19) {args : List AV} {H : List (Nat × Blk)} {r : AV} {H' : List (Nat × Blk)} (k : Nat) (hl : args.length ≤ 19) (hno : noTups args = true) (hk : ∀ id, look H id ≠ none → id < k)
  (hv : ∀ D, Holds C P 19 D k (FunPost C 19 k [.cell 6 48] r H') (vc C W b_lget [] (start args H) lf)) : Fun C P F_lget args H r H' := by
 refine fun_of (W := W) ctx mixed (fn := Proofs.Tryd.f23) (c := b_lget) Proofs.Tryd.func23 (by kernel_rfl) (by kernel_rfl) (by kernel_rfl) (by rw [hW]; kernel_rfl) (by rw [hW]; exact hl) hno k hk ?_
 rw [hW, show Proofs.Tryd.f23.results.toList = [.cell 6 48] by kernel_rfl]
 exact hv
abbrev F_rslist : Nat := 24
noncomputable def b_rslist : Code := Proofs.Tryd.f24.body.getD .skip
theorem in_rslist {W : Way} (hW : W.nt = 26) {args : List AV} {H : List (Nat × Blk)} {r : AV} {H' : List (Nat × Blk)} (k : Nat) (hl : args.length ≤ 26) (hno : noTups args = true) (hk : ∀ id, look H id ≠ none → id < k)
  (hv : ∀ D, Holds C P 26 D k (FunPost C 26 k [.tmp 4] r H') (vc C W b_rslist [] (start args H) lf)) : Fun C P F_rslist args H r H' := by
 refine fun_of (W := W) ctx mixed (fn := Proofs.Tryd.f24) (c := b_rslist) Proofs.Tryd.func24 (by kernel_rfl) (by kernel_rfl) (by kernel_rfl) (by rw [hW]; kernel_rfl) (by rw [hW]; exact hl) hno k hk ?_
 rw [hW, show Proofs.Tryd.f24.results.toList = [.tmp 4] by kernel_rfl]
 exact hv
abbrev F_list : Nat := 25
noncomputable def b_list : Code := Proofs.Tryd.f25.body.getD .skip
theorem in_list {W : Way} (hW : W.nt = 20) {args : List AV} {H : List (Nat × Blk)} {r : AV} {H' : List (Nat × Blk)} (k : Nat) (hl : args.length ≤ 20) (hno : noTups args = true) (hk : ∀ id, look H id ≠ none → id < k)
  (hv : ∀ D, Holds C P 20 D k (FunPost C 20 k [.tmp 2] r H') (vc C W b_list [] (start args H) lf)) : Fun C P F_list args H r H' := by
 refine fun_of (W := W) ctx mixed (fn := Proofs.Tryd.f25) (c := b_list) Proofs.Tryd.func25 (by kernel_rfl) (by kernel_rfl) (by kernel_rfl) (by rw [hW]; kernel_rfl) (by rw [hW]; exact hl) hno k hk ?_
 rw [hW, show Proofs.Tryd.f25.results.toList = [.tmp 2] by kernel_rfl]
 exact hv
abbrev F_sgot : Nat := 26
noncomputable def b_sgot : Code := Proofs.Tryd.f26.body.getD .skip
theorem in_sgot {W : Way} (hW : W.nt = 19) {args : List AV} {H : List (Nat × Blk)} {r : AV} {H' : List (Nat × Blk)} (k : Nat) (hl : args.length ≤ 19) (hno : noTups args = true) (hk : ∀ id, look H id ≠ none → id < k)
  (hv : ∀ D, Holds C P 19 D k (FunPost C 19 k [.tmp 4] r H') (vc C W b_sgot [] (start args H) lf)) : Fun C P F_sgot args H r H' := by
 refine fun_of (W := W) ctx mixed (fn := Proofs.Tryd.f26) (c := b_sgot) Proofs.Tryd.func26 (by kernel_rfl) (by kernel_rfl) (by kernel_rfl) (by rw [hW]; kernel_rfl) (by rw [hW]; exact hl) hno k hk ?_
 rw [hW, show Proofs.Tryd.f26.results.toList = [.tmp 4] by kernel_rfl]
 exact hv
abbrev F_rstep : Nat := 27
noncomputable def b_rstep : Code := Proofs.Tryd.f27.body.getD .skip
theorem in_rstep {W : Way} (hW : W.nt = 66) {args : List AV} {H : List (Nat × Blk)} {r : AV} {H' : List (Nat × Blk)} (k : Nat) (hl : args.length ≤ 66) (hno : noTups args = true) (hk : ∀ id, look H id ≠ none → id < k)
  (hv : ∀ D, Holds C P 66 D k (FunPost C 66 k [.cell 4 27] r H') (vc C W b_rstep [] (start args H) lf)) : Fun C P F_rstep args H r H' := by
 refine fun_of (W := W) ctx mixed (fn := Proofs.Tryd.f27) (c := b_rstep) Proofs.Tryd.func27 (by kernel_rfl) (by kernel_rfl) (by kernel_rfl) (by rw [hW]; kernel_rfl) (by rw [hW]; exact hl) hno k hk ?_
 rw [hW, show Proofs.Tryd.f27.results.toList = [.cell 4 27] by kernel_rfl]
 exact hv
abbrev F_rsync : Nat := 28
noncomputable def b_rsync : Code := Proofs.Tryd.f28.body.getD .skip
theorem in_rsync {W : Way} (hW : W.nt = 6) {args : List AV} {H : List (Nat × Blk)} {r : AV} {H' : List (Nat × Blk)} (k : Nat) (hl : args.length ≤ 6) (hno : noTups args = true) (hk : ∀ id, look H id ≠ none → id < k)
  (hv : ∀ D, Holds C P 6 D k (FunPost C 6 k [.cell 2 27] r H') (vc C W b_rsync [] (start args H) lf)) : Fun C P F_rsync args H r H' := by
 refine fun_of (W := W) ctx mixed (fn := Proofs.Tryd.f28) (c := b_rsync) Proofs.Tryd.func28 (by kernel_rfl) (by kernel_rfl) (by kernel_rfl) (by rw [hW]; kernel_rfl) (by rw [hW]; exact hl) hno k hk ?_
 rw [hW, show Proofs.Tryd.f28.results.toList = [.cell 2 27] by kernel_rfl]
 exact hv
abbrev F_rsum : Nat := 29
noncomputable def b_rsum : Code := Proofs.Tryd.f29.body.getD .skip
theorem in_rsum {W : Way} (hW : W.nt = 105) {args : List AV} {H : List (Nat × Blk)} {r : AV} {H' : List (Nat × Blk)} (k : Nat) (hl : args.length ≤ 105) (hno : noTups args = true) (hk : ∀ id, look H id ≠ none → id < k)
  (hv : ∀ D, Holds C P 105 D k (FunPost C 105 k [.cell 2 58] r H') (vc C W b_rsum [] (start args H) lf)) : Fun C P F_rsum args H r H' := by
 refine fun_of (W := W) ctx mixed (fn := Proofs.Tryd.f29) (c := b_rsum) Proofs.Tryd.func29 (by kernel_rfl) (by kernel_rfl) (by kernel_rfl) (by rw [hW]; kernel_rfl) (by rw [hW]; exact hl) hno k hk ?_
 rw [hW, show Proofs.Tryd.f29.results.toList = [.cell 2 58] by kernel_rfl]
 exact hv
abbrev F_bad : Nat := 30
noncomputable def b_bad : Code := Proofs.Tryd.f30.body.getD .skip
theorem in_bad {W : Way} (hW : W.nt = 6) {args : List AV} {H : List (Nat × Blk)} {r : AV} {H' : List (Nat × Blk)} (k : Nat) (hl : args.length ≤ 6) (hno : noTups args = true) (hk : ∀ id, look H id ≠ none → id < k)
  (hv : ∀ D, Holds C P 6 D k (FunPost C 6 k [.tmp 2] r H') (vc C W b_bad [] (start args H) lf)) : Fun C P F_bad args H r H' := by
 refine fun_of (W := W) ctx mixed (fn := Proofs.Tryd.f30) (c := b_bad) Proofs.Tryd.func30 (by kernel_rfl) (by kernel_rfl) (by kernel_rfl) (by rw [hW]; kernel_rfl) (by rw [hW]; exact hl) hno k hk ?_
 rw [hW, show Proofs.Tryd.f30.results.toList = [.tmp 2] by kernel_rfl]
 exact hv
abbrev F_rget : Nat := 31
noncomputable def b_rget : Code := Proofs.Tryd.f31.body.getD .skip
theorem in_rget {W : Way} (hW : W.nt = 47) {args : List AV} {H : List (Nat × Blk)} {r : AV} {H' : List (Nat × Blk)} (k : Nat) (hl : args.length ≤ 47) (hno : noTups args = true) (hk : ∀ id, look H id ≠ none → id < k)
  (hv : ∀ D, Holds C P 47 D k (FunPost C 47 k [.cell 6 48] r H') (vc C W b_rget [] (start args H) lf)) : Fun C P F_rget args H r H' := by
 refine fun_of (W := W) ctx mixed (fn := Proofs.Tryd.f31) (c := b_rget) Proofs.Tryd.func31 (by kernel_rfl) (by kernel_rfl) (by kernel_rfl) (by rw [hW]; kernel_rfl) (by rw [hW]; exact hl) hno k hk ?_
 rw [hW, show Proofs.Tryd.f31.results.toList = [.cell 6 48] by kernel_rfl]
 exact hv
abbrev F_rput : Nat := 32
noncomputable def b_rput : Code := Proofs.Tryd.f32.body.getD .skip
theorem in_rput {W : Way} (hW : W.nt = 35) {args : List AV} {H : List (Nat × Blk)} {r : AV} {H' : List (Nat × Blk)} (k : Nat) (hl : args.length ≤ 35) (hno : noTups args = true) (hk : ∀ id, look H id ≠ none → id < k)
  (hv : ∀ D, Holds C P 35 D k (FunPost C 35 k [.cell 8 34] r H') (vc C W b_rput [] (start args H) lf)) : Fun C P F_rput args H r H' := by
 refine fun_of (W := W) ctx mixed (fn := Proofs.Tryd.f32) (c := b_rput) Proofs.Tryd.func32 (by kernel_rfl) (by kernel_rfl) (by kernel_rfl) (by rw [hW]; kernel_rfl) (by rw [hW]; exact hl) hno k hk ?_
 rw [hW, show Proofs.Tryd.f32.results.toList = [.cell 8 34] by kernel_rfl]
 exact hv
abbrev F_rdrop : Nat := 33
noncomputable def b_rdrop : Code := Proofs.Tryd.f33.body.getD .skip
theorem in_rdrop {W : Way} (hW : W.nt = 17) {args : List AV} {H : List (Nat × Blk)} {r : AV} {H' : List (Nat × Blk)} (k : Nat) (hl : args.length ≤ 17) (hno : noTups args = true) (hk : ∀ id, look H id ≠ none → id < k)
  (hv : ∀ D, Holds C P 17 D k (FunPost C 17 k [.cell 4 27] r H') (vc C W b_rdrop [] (start args H) lf)) : Fun C P F_rdrop args H r H' := by
 refine fun_of (W := W) ctx mixed (fn := Proofs.Tryd.f33) (c := b_rdrop) Proofs.Tryd.func33 (by kernel_rfl) (by kernel_rfl) (by kernel_rfl) (by rw [hW]; kernel_rfl) (by rw [hW]; exact hl) hno k hk ?_
 rw [hW, show Proofs.Tryd.f33.results.toList = [.cell 4 27] by kernel_rfl]
 exact hv
abbrev F_rrot : Nat := 34
noncomputable def b_rrot : Code := Proofs.Tryd.f34.body.getD .skip
theorem in_rrot {W : Way} (hW : W.nt = 66) {args : List AV} {H : List (Nat × Blk)} {r : AV} {H' : List (Nat × Blk)} (k : Nat) (hl : args.length ≤ 66) (hno : noTups args = true) (hk : ∀ id, look H id ≠ none → id < k)
  (hv : ∀ D, Holds C P 66 D k (FunPost C 66 k [.cell 8 34] r H') (vc C W b_rrot [] (start args H) lf)) : Fun C P F_rrot args H r H' := by
 refine fun_of (W := W) ctx mixed (fn := Proofs.Tryd.f34) (c := b_rrot) Proofs.Tryd.func34 (by kernel_rfl) (by kernel_rfl) (by kernel_rfl) (by rw [hW]; kernel_rfl) (by rw [hW]; exact hl) hno k hk ?_
 rw [hW, show Proofs.Tryd.f34.results.toList = [.cell 8 34] by kernel_rfl]
 exact hv
abbrev F_rcrash : Nat := 35
noncomputable def b_rcrash : Code := Proofs.Tryd.f35.body.getD .skip
theorem in_rcrash {W : Way} (hW : W.nt = 35) {args : List AV} {H : List (Nat × Blk)} {r : AV} {H' : List (Nat × Blk)} (k : Nat) (hl : args.length ≤ 35) (hno : noTups args = true) (hk : ∀ id, look H id ≠ none → id < k)
  (hv : ∀ D, Holds C P 35 D k (FunPost C 35 k [.cell 4 27] r H') (vc C W b_rcrash [] (start args H) lf)) : Fun C P F_rcrash args H r H' := by
 refine fun_of (W := W) ctx mixed (fn := Proofs.Tryd.f35) (c := b_rcrash) Proofs.Tryd.func35 (by kernel_rfl) (by kernel_rfl) (by kernel_rfl) (by rw [hW]; kernel_rfl) (by rw [hW]; exact hl) hno k hk ?_
 rw [hW, show Proofs.Tryd.f35.results.toList = [.cell 4 27] by kernel_rfl]
 exact hv
abbrev F_rscells : Nat := 36
noncomputable def b_rscells : Code := Proofs.Tryd.f36.body.getD .skip
theorem in_rscells {W : Way} (hW : W.nt = 27) {args : List AV} {H : List (Nat × Blk)} {r : AV} {H' : List (Nat × Blk)} (k : Nat) (hl : args.length ≤ 27) (hno : noTups args = true) (hk : ∀ id, look H id ≠ none → id < k)
  (hv : ∀ D, Holds C P 27 D k (FunPost C 27 k [.tmp 4] r H') (vc C W b_rscells [] (start args H) lf)) : Fun C P F_rscells args H r H' := by
 refine fun_of (W := W) ctx mixed (fn := Proofs.Tryd.f36) (c := b_rscells) Proofs.Tryd.func36 (by kernel_rfl) (by kernel_rfl) (by kernel_rfl) (by rw [hW]; kernel_rfl) (by rw [hW]; exact hl) hno k hk ?_
 rw [hW, show Proofs.Tryd.f36.results.toList = [.tmp 4] by kernel_rfl]
 exact hv
abbrev F_rbad : Nat := 37
noncomputable def b_rbad : Code := Proofs.Tryd.f37.body.getD .skip
theorem in_rbad {W : Way} (hW : W.nt = 29) {args : List AV} {H : List (Nat × Blk)} {r : AV} {H' : List (Nat × Blk)} (k : Nat) (hl : args.length ≤ 29) (hno : noTups args = true) (hk : ∀ id, look H id ≠ none → id < k)
  (hv : ∀ D, Holds C P 29 D k (FunPost C 29 k [.tmp 2] r H') (vc C W b_rbad [] (start args H) lf)) : Fun C P F_rbad args H r H' := by
 refine fun_of (W := W) ctx mixed (fn := Proofs.Tryd.f37) (c := b_rbad) Proofs.Tryd.func37 (by kernel_rfl) (by kernel_rfl) (by kernel_rfl) (by rw [hW]; kernel_rfl) (by rw [hW]; exact hl) hno k hk ?_
 rw [hW, show Proofs.Tryd.f37.results.toList = [.tmp 2] by kernel_rfl]
 exact hv
abbrev F_rlist : Nat := 38
noncomputable def b_rlist : Code := Proofs.Tryd.f38.body.getD .skip
theorem in_rlist {W : Way} (hW : W.nt = 30) {args : List AV} {H : List (Nat × Blk)} {r : AV} {H' : List (Nat × Blk)} (k : Nat) (hl : args.length ≤ 30) (hno : noTups args = true) (hk : ∀ id, look H id ≠ none → id < k)
  (hv : ∀ D, Holds C P 30 D k (FunPost C 30 k [.tmp 2] r H') (vc C W b_rlist [] (start args H) lf)) : Fun C P F_rlist args H r H' := by
 refine fun_of (W := W) ctx mixed (fn := Proofs.Tryd.f38) (c := b_rlist) Proofs.Tryd.func38 (by kernel_rfl) (by kernel_rfl) (by kernel_rfl) (by rw [hW]; kernel_rfl) (by rw [hW]; exact hl) hno k hk ?_
 rw [hW, show Proofs.Tryd.f38.results.toList = [.tmp 2] by kernel_rfl]
 exact hv
abbrev F_put : Nat := 39
noncomputable def b_put : Code := Proofs.Tryd.f39.body.getD .skip
theorem in_put {W : Way} (hW : W.nt = 33) {args : List AV} {H : List (Nat × Blk)} {r : AV} {H' : List (Nat × Blk)} (k : Nat) (hl : args.length ≤ 33) (hno : noTups args = true) (hk : ∀ id, look H id ≠ none → id < k)
  (hv : ∀ D, Holds C P 33 D k (FunPost C 33 k [.cell 8 27, .tmp 9] r H') (vc C W b_put [] (start args H) lf)) : Fun C P F_put args H r H' := by
 refine fun_of (W := W) ctx mixed (fn := Proofs.Tryd.f39) (c := b_put) Proofs.Tryd.func39 (by kernel_rfl) (by kernel_rfl) (by kernel_rfl) (by rw [hW]; kernel_rfl) (by rw [hW]; exact hl) hno k hk ?_
 rw [hW, show Proofs.Tryd.f39.results.toList = [.cell 8 27, .tmp 9] by kernel_rfl]
 exact hv
abbrev F_inrange : Nat := 40
noncomputable def b_inrange : Code := Proofs.Tryd.f40.body.getD .skip
theorem in_inrange {W : Way} (hW : W.nt = 21) {args : List AV} {H : List (Nat × Blk)} {r : AV} {H' : List (Nat × Blk)} (k : Nat) (hl : args.length ≤ 21) (hno : noTups args = true) (hk : ∀ id, look H id ≠ none → id < k)
  (hv : ∀ D, Holds C P 21 D k (FunPost C 21 k [.tmp 2] r H') (vc C W b_inrange [] (start args H) lf)) : Fun C P F_inrange args H r H' := by
 refine fun_of (W := W) ctx mixed (fn := Proofs.Tryd.f40) (c := b_inrange) Proofs.Tryd.func40 (by kernel_rfl) (by kernel_rfl) (by kernel_rfl) (by rw [hW]; kernel_rfl) (by rw [hW]; exact hl) hno k hk ?_
 rw [hW, show Proofs.Tryd.f40.results.toList = [.tmp 2] by kernel_rfl]
 exact hv
abbrev F_push : Nat := 41
noncomputable def b_push : Code := Proofs.Tryd.f41.body.getD .skip
theorem in_push {W : Way} (hW : W.nt = 13) {args : List AV} {H : List (Nat × Blk)} {r : AV} {H' : List (Nat × Blk)} (k : Nat) (hl : args.length ≤ 13) (hno : noTups args = true) (hk : ∀ id, look H id ≠ none → id < k)
  (hv : ∀ D, Holds C P 13 D k (FunPost C 13 k [.cell 4 27] r H') (vc C W b_push [] (start args H) lf)) : Fun C P F_push args H r H' := by
 refine fun_of (W := W) ctx mixed (fn := Proofs.Tryd.f41) (c := b_push) Proofs.Tryd.func41 (by kernel_rfl) (by kernel_rfl) (by kernel_rfl) (by rw [hW]; kernel_rfl) (by rw [hW]; exact hl) hno k hk ?_
 rw [hW, show Proofs.Tryd.f41.results.toList = [.cell 4 27] by kernel_rfl]
 exact hv
abbrev F_contents : Nat := 42
noncomputable def b_contents : Code := Proofs.Tryd.f42.body.getD .skip
theorem in_contents {W : Way} (hW : W.nt = 8) {args : List AV} {H : List (Nat × Blk)} {r : AV} {H' : List (Nat × Blk)} (k : Nat) (hl : args.length ≤ 8) (hno : noTups args = true) (hk : ∀ id, look H id ≠ none → id < k)
  (hv : ∀ D, Holds C P 8 D k (FunPost C 8 k [.tmp 2] r H') (vc C W b_contents [] (start args H) lf)) : Fun C P F_contents args H r H' := by
 refine fun_of (W := W) ctx mixed (fn := Proofs.Tryd.f42) (c := b_contents) Proofs.Tryd.func42 (by kernel_rfl) (by kernel_rfl) (by kernel_rfl) (by rw [hW]; kernel_rfl) (by rw [hW]; exact hl) hno k hk ?_
 rw [hW, show Proofs.Tryd.f42.results.toList = [.tmp 2] by kernel_rfl]
 exact hv
abbrev F_rot : Nat := 43
noncomputable def b_rot : Code := Proofs.Tryd.f43.body.getD .skip
theorem in_rot {W : Way} (hW : W.nt = 61) {args : List AV} {H : List (Nat × Blk)} {r : AV} {H' : List (Nat × Blk)} (k : Nat) (hl : args.length ≤ 61) (hno : noTups args = true) (hk : ∀ id, look H id ≠ none → id < k)
  (hv : ∀ D, Holds C P 61 D k (FunPost C 61 k [.cell 8 27, .tmp 9] r H') (vc C W b_rot [] (start args H) lf)) : Fun C P F_rot args H r H' := by
 refine fun_of (W := W) ctx mixed (fn := Proofs.Tryd.f43) (c := b_rot) Proofs.Tryd.func43 (by kernel_rfl) (by kernel_rfl) (by kernel_rfl) (by rw [hW]; kernel_rfl) (by rw [hW]; exact hl) hno k hk ?_
 rw [hW, show Proofs.Tryd.f43.results.toList = [.cell 8 27, .tmp 9] by kernel_rfl]
 exact hv
abbrev F_crash1 : Nat := 44
noncomputable def b_crash1 : Code := Proofs.Tryd.f44.body.getD .skip
theorem in_crash1 {W : Way} (hW : W.nt = 14) {args : List AV} {H : List (Nat × Blk)} {r : AV} {H' : List (Nat × Blk)} (k : Nat) (hl : args.length ≤ 14) (hno : noTups args = true) (hk : ∀ id, look H id ≠ none → id < k)
  (hv : ∀ D, Holds C P 14 D k (FunPost C 14 k [.tmp 3] r H') (vc C W b_crash1 [] (start args H) lf)) : Fun C P F_crash1 args H r H' := by
 refine fun_of (W := W) ctx mixed (fn := Proofs.Tryd.f44) (c := b_crash1) Proofs.Tryd.func44 (by kernel_rfl) (by kernel_rfl) (by kernel_rfl) (by rw [hW]; kernel_rfl) (by rw [hW]; exact hl) hno k hk ?_
 rw [hW, show Proofs.Tryd.f44.results.toList = [.tmp 3] by kernel_rfl]
 exact hv
abbrev F_perform : Nat := 45
noncomputable def b_perform : Code := Proofs.Tryd.f45.body.getD .skip
theorem inR_perform {W : Way} (hW : W.nt = 37) {args : List AV} {H : List (Nat × Blk)} {r : AV} {H' : List (Nat × Blk)} (k : Nat) (hl : args.length ≤ 37) (hno : noTups args = true) (hk : ∀ id, look H id ≠ none → id < k)
  (hv : ∀ n, Holds C P 37 { base := n } k (FunPost C 37 k [.tmp 4] r H') (vc C W b_perform [] (start args H) lf)) : Fun C P F_perform args H r H' := by
 refine fun_ofR (W := W) ctx mixed (fn := Proofs.Tryd.f45) (c := b_perform) Proofs.Tryd.func45 (by kernel_rfl) (by kernel_rfl) (by kernel_rfl) (by rw [hW]; kernel_rfl) (by rw [hW]; exact hl) hno k hk ?_
 rw [hW, show Proofs.Tryd.f45.results.toList = [.tmp 4] by kernel_rfl]
 exact hv
noncomputable abbrev asg_perform_0 : Code := asgAt b_perform [1, 1, 0, 1, 0]
noncomputable abbrev rbd_perform_0 : Code := rbodyAt b_perform [1, 1, 0, 1, 0]
theorem st_perform_0 : stmtAt b_perform [1, 1, 0, 1, 0] = .rangeFunc (.tmp 10) #[11] asg_perform_0 rbd_perform_0 := by kernel_rfl
theorem oka_perform_0 : codeOK asg_perform_0 = true := by kernel_rfl
theorem okr_perform_0 : codeOK rbd_perform_0 = true := by kernel_rfl
abbrev F_jobs : Nat := 46
noncomputable def b_jobs : Code := Proofs.Tryd.f46.body.getD .skip
theorem in_jobs {W : Way} (hW : W.nt = 6) {args : List AV} {H : List (Nat × Blk)} {r : AV} {H' : List (Nat × Blk)} (k : Nat) (hl : args.length ≤ 6) (hno : noTups args = true) (hk : ∀ id, look H id ≠ none → id < k)
  (hv : ∀ D, Holds C P 6 D k (FunPost C 6 k [.tmp 4] r H') (vc C W b_jobs [] (start args H) lf)) : Fun C P F_jobs args H r H' := by
 refine fun_of (W := W) ctx mixed (fn := Proofs.Tryd.f46) (c := b_jobs) Proofs.Tryd.func46 (by kernel_rfl) (by kernel_rfl) (by kernel_rfl) (by rw [hW]; kernel_rfl) (by rw [hW]; exact hl) hno k hk ?_
 rw [hW, show Proofs.Tryd.f46.results.toList = [.tmp 4] by kernel_rfl]
 exact hv
abbrev F_rproper : Nat := 47
noncomputable def b_rproper : Code := Proofs.Tryd.f47.body.getD .skip
theorem in_rproper {W : Way} (hW : W.nt = 27) {args : List AV} {H : List (Nat × Blk)} {r : AV} {H' : List (Nat × Blk)} (k : Nat) (hl : args.length ≤ 27) (hno : noTups args = true) (hk : ∀ id, look H id ≠ none → id < k)
  (hv : ∀ D, Holds C P 27 D k (FunPost C 27 k [.tmp 2] r H') (vc C W b_rproper [] (start args H) lf)) : Fun C P F_rproper args H r H' := by
 refine fun_of (W := W) ctx mixed (fn := Proofs.Tryd.f47) (c := b_rproper) Proofs.Tryd.func47 (by kernel_rfl) (by kernel_rfl) (by kernel_rfl) (by rw [hW]; kernel_rfl) (by rw [hW]; exact hl) hno k hk ?_
 rw [hW, show Proofs.Tryd.f47.results.toList = [.tmp 2] by kernel_rfl]
 exact hv
abbrev F_rbefore : Nat := 48
noncomputable def b_rbefore : Code := Proofs.Tryd.f48.body.getD .skip
theorem in_rbefore {W : Way} (hW : W.nt = 24) {args : List AV} {H : List (Nat × Blk)} {r : AV} {H' : List (Nat × Blk)} (k : Nat) (hl : args.length ≤ 24) (hno : noTups args = true) (hk : ∀ id, look H id ≠ none → id < k)
  (hv : ∀ D, Holds C P 24 D k (FunPost C 24 k [.tmp 4] r H') (vc C W b_rbefore [] (start args H) lf)) : Fun C P F_rbefore args H r H' := by
 refine fun_of (W := W) ctx mixed (fn := Proofs.Tryd.f48) (c := b_rbefore) Proofs.Tryd.func48 (by kernel_rfl) (by kernel_rfl) (by kernel_rfl) (by rw [hW]; kernel_rfl) (by rw [hW]; exact hl) hno k hk ?_
 rw [hW, show Proofs.Tryd.f48.results.toList = [.tmp 4] by kernel_rfl]
 exact hv
abbrev F_rpjob : Nat := 49
noncomputable def b_rpjob : Code := Proofs.Tryd.f49.body.getD .skip
theorem in_rpjob {W : Way} (hW : W.nt = 44) {args : List AV} {H : List (Nat × Blk)} {r : AV} {H' : List (Nat × Blk)} (k : Nat) (hl : args.length ≤ 44) (hno : noTups args = true) (hk : ∀ id, look H id ≠ none → id < k)
  (hv : ∀ D, Holds C P 44 D k (FunPost C 44 k [.tmp 2] r H') (vc C W b_rpjob [] (start args H) lf)) : Fun C P F_rpjob args H r H' := by
 refine fun_of (W := W) ctx mixed (fn := Proofs.Tryd.f49) (c := b_rpjob) Proofs.Tryd.func49 (by kernel_rfl) (by kernel_rfl) (by kernel_rfl) (by rw [hW]; kernel_rfl) (by rw [hW]; exact hl) hno k hk ?_
 rw [hW, show Proofs.Tryd.f49.results.toList = [.tmp 2] by kernel_rfl]
 exact hv
abbrev F_compare : Nat := 50
noncomputable def b_compare : Code := Proofs.Tryd.f50.body.getD .skip
theorem in_compare {W : Way} (hW : W.nt = 14) {args : List AV} {H : List (Nat × Blk)} {r : AV} {H' : List (Nat × Blk)} (k : Nat) (hl : args.length ≤ 14) (hno : noTups args = true) (hk : ∀ id, look H id ≠ none → id < k)
  (hv : ∀ D, Holds C P 14 D k (FunPost C 14 k [.tmp 4] r H') (vc C W b_compare [] (start args H) lf)) : Fun C P F_compare args H r H' := by
 refine fun_of (W := W) ctx mixed (fn := Proofs.Tryd.f50) (c := b_compare) Proofs.Tryd.func50 (by kernel_rfl) (by kernel_rfl) (by kernel_rfl) (by rw [hW]; kernel_rfl) (by rw [hW]; exact hl) hno k hk ?_
 rw [hW, show Proofs.Tryd.f50.results.toList = [.tmp 4] by kernel_rfl]
 exact hv
abbrev F_whole : Nat := 51
noncomputable def b_whole : Code := Proofs.Tryd.f51.body.getD .skip
theorem in_whole {W : Way} (hW : W.nt = 9) {args : List AV} {H : List (Nat × Blk)} {r : AV} {H' : List (Nat × Blk)} (k : Nat) (hl : args.length ≤ 9) (hno : noTups args = true) (hk : ∀ id, look H id ≠ none → id < k)
  (hv : ∀ D, Holds C P 9 D k (FunPost C 9 k [.tmp 2] r H') (vc C W b_whole [] (start args H) lf)) : Fun C P F_whole args H r H' := by
 refine fun_of (W := W) ctx mixed (fn := Proofs.Tryd.f51) (c := b_whole) Proofs.Tryd.func51 (by kernel_rfl) (by kernel_rfl) (by kernel_rfl) (by rw [hW]; kernel_rfl) (by rw [hW]; exact hl) hno k hk ?_
 rw [hW, show Proofs.Tryd.f51.results.toList = [.tmp 2] by kernel_rfl]
 exact hv
abbrev F_rscell : Nat := 52
noncomputable def b_rscell : Code := Proofs.Tryd.f52.body.getD .skip
theorem in_rscell {W : Way} (hW : W.nt = 33) {args : List AV} {H : List (Nat × Blk)} {r : AV} {H' : List (Nat × Blk)} (k : Nat) (hl : args.length ≤ 33) (hno : noTups args = true) (hk : ∀ id, look H id ≠ none → id < k)
  (hv : ∀ D, Holds C P 33 D k (FunPost C 33 k [.tmp 4] r H') (vc C W b_rscell [] (start args H) lf)) : Fun C P F_rscell args H r H' := by
 refine fun_of (W := W) ctx mixed (fn := Proofs.Tryd.f52) (c := b_rscell) Proofs.Tryd.func52 (by kernel_rfl) (by kernel_rfl) (by kernel_rfl) (by rw [hW]; kernel_rfl) (by rw [hW]; exact hl) hno k hk ?_
 rw [hW, show Proofs.Tryd.f52.results.toList = [.tmp 4] by kernel_rfl]
 exact hv
abbrev F_get : Nat := 53
noncomputable def b_get : Code := Proofs.Tryd.f53.body.getD .skip
theorem in_get {W : Way} (hW : W.nt = 29) {args : List AV} {H : List (Nat × Blk)} {r : AV} {H' : List (Nat × Blk)} (k : Nat) (hl : args.length ≤ 29) (hno : noTups args = true) (hk : ∀ id, look H id ≠ none → id < k)
  (hv : ∀ D, Holds C P 29 D k (FunPost C 29 k [.tmp 6, .tmp 7] r H') (vc C W b_get [] (start args H) lf)) : Fun C P F_get args H r H' := by
 refine fun_of (W := W) ctx mixed (fn := Proofs.Tryd.f53) (c := b_get) Proofs.Tryd.func53 (by kernel_rfl) (by kernel_rfl) (by kernel_rfl) (by rw [hW]; kernel_rfl) (by rw [hW]; exact hl) hno k hk ?_
 rw [hW, show Proofs.Tryd.f53.results.toList = [.tmp 6, .tmp 7] by kernel_rfl]
 exact hv
abbrev F_number : Nat := 54
noncomputable def b_number : Code := Proofs.Tryd.f54.body.getD .skip
theorem in_number {W : Way} (hW : W.nt = 8) {args : List AV} {H : List (Nat × Blk)} {r : AV} {H' : List (Nat × Blk)} (k : Nat) (hl : args.length ≤ 8) (hno : noTups args = true) (hk : ∀ id, look H id ≠ none → id < k)
  (hv : ∀ D, Holds C P 8 D k (FunPost C 8 k [.cell 2 40] r H') (vc C W b_number [] (start args H) lf)) : Fun C P F_number args H r H' := by
 refine fun_of (W := W) ctx mixed (fn := Proofs.Tryd.f54) (c := b_number) Proofs.Tryd.func54 (by kernel_rfl) (by kernel_rfl) (by kernel_rfl) (by rw [hW]; kernel_rfl) (by rw [hW]; exact hl) hno k hk ?_
 rw [hW, show Proofs.Tryd.f54.results.toList = [.cell 2 40] by kernel_rfl]
 exact hv
abbrev F_rcont : Nat := 55
noncomputable def b_rcont : Code := Proofs.Tryd.f55.body.getD .skip
theorem in_rcont {W : Way} (hW : W.nt = 22) {args : List AV} {H : List (Nat × Blk)} {r : AV} {H' : List (Nat × Blk)} (k : Nat) (hl : args.length ≤ 22) (hno : noTups args = true) (hk : ∀ id, look H id ≠ none → id < k)
  (hv : ∀ D, Holds C P 22 D k (FunPost C 22 k [.tmp 2] r H') (vc C W b_rcont [] (start args H) lf)) : Fun C P F_rcont args H r H' := by
 refine fun_of (W := W) ctx mixed (fn := Proofs.Tryd.f55) (c := b_rcont) Proofs.Tryd.func55 (by kernel_rfl) (by kernel_rfl) (by kernel_rfl) (by rw [hW]; kernel_rfl) (by rw [hW]; exact hl) hno k hk ?_
 rw [hW, show Proofs.Tryd.f55.results.toList = [.tmp 2] by kernel_rfl]
 exact hv
abbrev F_rwords : Nat := 56
noncomputable def b_rwords : Code := Proofs.Tryd.f56.body.getD .skip
theorem in_rwords {W : Way} (hW : W.nt = 2) {args : List AV} {H : List (Nat × Blk)} {r : AV} {H' : List (Nat × Blk)} (k : Nat) (hl : args.length ≤ 2) (hno : noTups args = true) (hk : ∀ id, look H id ≠ none → id < k)
  (hv : ∀ D, Holds C P 2 D k (FunPost C 2 k [.cell 0 94] r H') (vc C W b_rwords [] (start args H) lf)) : Fun C P F_rwords args H r H' := by
 refine fun_of (W := W) ctx mixed (fn := Proofs.Tryd.f56) (c := b_rwords) Proofs.Tryd.func56 (by kernel_rfl) (by kernel_rfl) (by kernel_rfl) (by rw [hW]; kernel_rfl) (by rw [hW]; exact hl) hno k hk ?_
 rw [hW, show Proofs.Tryd.f56.results.toList = [.cell 0 94] by kernel_rfl]
 exact hv
abbrev F_rround : Nat := 57
noncomputable def b_rround : Code := Proofs.Tryd.f57.body.getD .skip
theorem in_rround {W : Way} (hW : W.nt = 173) {args : List AV} {H : List (Nat × Blk)} {r : AV} {H' : List (Nat × Blk)} (k : Nat) (hl : args.length ≤ 173) (hno : noTups args = true) (hk : ∀ id, look H id ≠ none → id < k)
  (hv : ∀ D, Holds C P 173 D k (FunPost C 173 k [.cell 4 93] r H') (vc C W b_rround [] (start args H) lf)) : Fun C P F_rround args H r H' := by
 refine fun_of (W := W) ctx mixed (fn := Proofs.Tryd.f57) (c := b_rround) Proofs.Tryd.func57 (by kernel_rfl) (by kernel_rfl) (by kernel_rfl) (by rw [hW]; kernel_rfl) (by rw [hW]; exact hl) hno k hk ?_
 rw [hW, show Proofs.Tryd.f57.results.toList = [.cell 4 93] by kernel_rfl]
 exact hv
abbrev F_delf : Nat := 58
noncomputable def b_delf : Code := Proofs.Tryd.f58.body.getD .skip
theorem in_delf {W : Way} (hW : W.nt = 42) {args : List AV} {H : List (Nat × Blk)} {r : AV} {H' : List (Nat × Blk)} (k : Nat) (hl : args.length ≤ 42) (hno : noTups args = true) (hk : ∀ id, look H id ≠ none → id < k)
  (hv : ∀ D, Holds C P 42 D k (FunPost C 42 k [.tmp 4] r H') (vc C W b_delf [] (start args H) lf)) : Fun C P F_delf args H r H' := by
 refine fun_of (W := W) ctx mixed (fn := Proofs.Tryd.f58) (c := b_delf) Proofs.Tryd.func58 (by kernel_rfl) (by kernel_rfl) (by kernel_rfl) (by rw [hW]; kernel_rfl) (by rw [hW]; exact hl) hno k hk ?_
 rw [hW, show Proofs.Tryd.f58.results.toList = [.tmp 4] by kernel_rfl]
 exact hv
abbrev F_rwhole : Nat := 59
noncomputable def b_rwhole : Code := Proofs.Tryd.f59.body.getD .skip
theorem in_rwhole {W : Way} (hW : W.nt = 9) {args : List AV} {H : List (Nat × Blk)} {r : AV} {H' : List (Nat × Blk)} (k : Nat) (hl : args.length ≤ 9) (hno : noTups args = true) (hk : ∀ id, look H id ≠ none → id < k)
  (hv : ∀ D, Holds C P 9 D k (FunPost C 9 k [.tmp 2] r H') (vc C W b_rwhole [] (start args H) lf)) : Fun C P F_rwhole args H r H' := by
 refine fun_of (W := W) ctx mixed (fn := Proofs.Tryd.f59) (c := b_rwhole) Proofs.Tryd.func59 (by kernel_rfl) (by kernel_rfl) (by kernel_rfl) (by rw [hW]; kernel_rfl) (by rw [hW]; exact hl) hno k hk ?_
 rw [hW, show Proofs.Tryd.f59.results.toList = [.tmp 2] by kernel_rfl]
 exact hv
abbrev F_rqueued : Nat := 60
noncomputable def b_rqueued : Code := Proofs.Tryd.f60.body.getD .skip
theorem in_rqueued {W : Way} (hW : W.nt = 16) {args : List AV} {H : List (Nat × Blk)} {r : AV} {H' : List (Nat × Blk)} (k : Nat) (hl : args.length ≤ 16) (hno : noTups args = true) (hk : ∀ id, look H id ≠ none → id < k)
  (hv : ∀ D, Holds C P 16 D k (FunPost C 16 k [.cell 4 27] r H') (vc C W b_rqueued [] (start args H) lf)) : Fun C P F_rqueued args H r H' := by
 refine fun_of (W := W) ctx mixed (fn := Proofs.Tryd.f60) (c := b_rqueued) Proofs.Tryd.func60 (by kernel_rfl) (by kernel_rfl) (by kernel_rfl) (by rw [hW]; kernel_rfl) (by rw [hW]; exact hl) hno k hk ?_
 rw [hW, show Proofs.Tryd.f60.results.toList = [.cell 4 27] by kernel_rfl]
 exact hv
abbrev F_rperf : Nat := 61
noncomputable def b_rperf : Code := Proofs.Tryd.f61.body.getD .skip
theorem in_rperf {W : Way} (hW : W.nt = 74) {args : List AV} {H : List (Nat × Blk)} {r : AV} {H' : List (Nat × Blk)} (k : Nat) (hl : args.length ≤ 74) (hno : noTups args = true) (hk : ∀ id, look H id ≠ none → id < k)
  (hv : ∀ D, Holds C P 74 D k (FunPost C 74 k [.tmp 4] r H') (vc C W b_rperf [] (start args H) lf)) : Fun C P F_rperf args H r H' := by
 refine fun_of (W := W) ctx mixed (fn := Proofs.Tryd.f61) (c := b_rperf) Proofs.Tryd.func61 (by kernel_rfl) (by kernel_rfl) (by kernel_rfl) (by rw [hW]; kernel_rfl) (by rw [hW]; exact hl) hno k hk ?_
 rw [hW, show Proofs.Tryd.f61.results.toList = [.tmp 4] by kernel_rfl]
 exact hv
abbrev F_cloneB : Nat := 62
noncomputable def b_cloneB : Code := Proofs.Tryd.f62.body.getD .skip
theorem in_cloneB {W : Way} (hW : W.nt = 8) {args : List AV} {H : List (Nat × Blk)} {r : AV} {H' : List (Nat × Blk)} (k : Nat) (hl : args.length ≤ 8) (hno : noTups args = true) (hk : ∀ id, look H id ≠ none → id < k)
  (hv : ∀ D, Holds C P 8 D k (FunPost C 8 k [.tmp 2] r H') (vc C W b_cloneB [] (start args H) lf)) : Fun C P F_cloneB args H r H' := by
 refine fun_of (W := W) ctx mixed (fn := Proofs.Tryd.f62) (c := b_cloneB) Proofs.Tryd.func62 (by kernel_rfl) (by kernel_rfl) (by kernel_rfl) (by rw [hW]; kernel_rfl) (by rw [hW]; exact hl) hno k hk ?_
 rw [hW, show Proofs.Tryd.f62.results.toList = [.tmp 2] by kernel_rfl]
 exact hv
abbrev F_sum : Nat := 63
noncomputable def b_sum : Code := Proofs.Tryd.f63.body.getD .skip
theorem in_sum {W : Way} (hW : W.nt = 52) {args : List AV} {H : List (Nat × Blk)} {r : AV} {H' : List (Nat × Blk)} (k : Nat) (hl : args.length ≤ 52) (hno : noTups args = true) (hk : ∀ id, look H id ≠ none → id < k)
  (hv : ∀ D, Holds C P 52 D k (FunPost C 52 k [.cell 2 58] r H') (vc C W b_sum [] (start args H) lf)) : Fun C P F_sum args H r H' := by
 refine fun_of (W := W) ctx mixed (fn := Proofs.Tryd.f63) (c := b_sum) Proofs.Tryd.func63 (by kernel_rfl) (by kernel_rfl) (by kernel_rfl) (by rw [hW]; kernel_rfl) (by rw [hW]; exact hl) hno k hk ?_
 rw [hW, show Proofs.Tryd.f63.results.toList = [.cell 2 58] by kernel_rfl]
 exact hv
abbrev F_clipJ : Nat := 64
noncomputable def b_clipJ : Code := Proofs.Tryd.f64.body.getD .skip
theorem in_clipJ {W : Way} (hW : W.nt = 9) {args : List AV} {H : List (Nat × Blk)} {r : AV} {H' : List (Nat × Blk)} (k : Nat) (hl : args.length ≤ 9) (hno : noTups args = true) (hk : ∀ id, look H id ≠ none → id < k)
  (hv : ∀ D, Holds C P 9 D k (FunPost C 9 k [.tmp 2] r H') (vc C W b_clipJ [] (start args H) lf)) : Fun C P F_clipJ args H r H' := by
 refine fun_of (W := W) ctx mixed (fn := Proofs.Tryd.f64) (c := b_clipJ) Proofs.Tryd.func64 (by kernel_rfl) (by kernel_rfl) (by kernel_rfl) (by rw [hW]; kernel_rfl) (by rw [hW]; exact hl) hno k hk ?_
 rw [hW, show Proofs.Tryd.f64.results.toList = [.tmp 2] by kernel_rfl]
 exact hv
abbrev F_cont1 : Nat := 65
noncomputable def b_cont1 : Code := Proofs.Tryd.f65.body.getD .skip
theorem in_cont1 {W : Way} (hW : W.nt = 3) {args : List AV} {H : List (Nat × Blk)} {r : AV} {H' : List (Nat × Blk)} (k : Nat) (hl : args.length ≤ 3) (hno : noTups args = true) (hk : ∀ id, look H id ≠ none → id < k)
  (hv : ∀ D, Holds C P 3 D k (FunPost C 3 k [.tmp 2] r H') (vc C W b_cont1 [] (start args H) lf)) : Fun C P F_cont1 args H r H' := by
 refine fun_of (W := W) ctx mixed (fn := Proofs.Tryd.f65) (c := b_cont1) Proofs.Tryd.func65 (by kernel_rfl) (by kernel_rfl) (by kernel_rfl) (by rw [hW]; kernel_rfl) (by rw [hW]; exact hl) hno k hk ?_
 rw [hW, show Proofs.Tryd.f65.results.toList = [.tmp 2] by kernel_rfl]
 exact hv
abbrev F_cloneC : Nat := 66
noncomputable def b_cloneC : Code := Proofs.Tryd.f66.body.getD .skip
theorem in_cloneC {W : Way} (hW : W.nt = 8) {args : List AV} {H : List (Nat × Blk)} {r : AV} {H' : List (Nat × Blk)} (k : Nat) (hl : args.length ≤ 8) (hno : noTups args = true) (hk : ∀ id, look H id ≠ none → id < k)
  (hv : ∀ D, Holds C P 8 D k (FunPost C 8 k [.tmp 2] r H') (vc C W b_cloneC [] (start args H) lf)) : Fun C P F_cloneC args H r H' := by
 refine fun_of (W := W) ctx mixed (fn := Proofs.Tryd.f66) (c := b_cloneC) Proofs.Tryd.func66 (by kernel_rfl) (by kernel_rfl) (by kernel_rfl) (by rw [hW]; kernel_rfl) (by rw [hW]; exact hl) hno k hk ?_
 rw [hW, show Proofs.Tryd.f66.results.toList = [.tmp 2] by kernel_rfl]
 exact hv
abbrev F_perf1 : Nat := 67
noncomputable def b_perf1 : Code := Proofs.Tryd.f67.body.getD .skip
theorem in_perf1 {W : Way} (hW : W.nt = 10) {args : List AV} {H : List (Nat × Blk)} {r : AV} {H' : List (Nat × Blk)} (k : Nat) (hl : args.length ≤ 10) (hno : noTups args = true) (hk : ∀ id, look H id ≠ none → id < k)
  (hv : ∀ D, Holds C P 10 D k (FunPost C 10 k [.tmp 3] r H') (vc C W b_perf1 [] (start args H) lf)) : Fun C P F_perf1 args H r H' := by
 refine fun_of (W := W) ctx mixed (fn := Proofs.Tryd.f67) (c := b_perf1) Proofs.Tryd.func67 (by kernel_rfl) (by kernel_rfl) (by kernel_rfl) (by rw [hW]; kernel_rfl) (by rw [hW]; exact hl) hno k hk ?_
 rw [hW, show Proofs.Tryd.f67.results.toList = [.tmp 3] by kernel_rfl]
 exact hv
abbrev F_bsC : Nat := 68
noncomputable def b_bsC : Code := Proofs.Tryd.f68.body.getD .skip
theorem in_bsC {W : Way} (hW : W.nt = 49) {args : List AV} {H : List (Nat × Blk)} {r : AV} {H' : List (Nat × Blk)} (k : Nat) (hl : args.length ≤ 49) (hno : noTups args = true) (hk : ∀ id, look H id ≠ none → id < k)
  (hv : ∀ D, Holds C P 49 D k (FunPost C 49 k [.tmp 6, .tmp 7] r H') (vc C W b_bsC [] (start args H) lf)) : Fun C P F_bsC args H r H' := by
 refine fun_of (W := W) ctx mixed (fn := Proofs.Tryd.f68) (c := b_bsC) Proofs.Tryd.func68 (by kernel_rfl) (by kernel_rfl) (by kernel_rfl) (by rw [hW]; kernel_rfl) (by rw [hW]; exact hl) hno k hk ?_
 rw [hW, show Proofs.Tryd.f68.results.toList = [.tmp 6, .tmp 7] by kernel_rfl]
 exact hv
abbrev F_insC : Nat := 69
noncomputable def b_insC : Code := Proofs.Tryd.f69.body.getD .skip
theorem in_insC {W : Way} (hW : W.nt = 95) {args : List AV} {H : List (Nat × Blk)} {r : AV} {H' : List (Nat × Blk)} (k : Nat) (hl : args.length ≤ 95) (hno : noTups args = true) (hk : ∀ id, look H id ≠ none → id < k)
  (hv : ∀ D, Holds C P 95 D k (FunPost C 95 k [.tmp 6] r H') (vc C W b_insC [] (start args H) lf)) : Fun C P F_insC args H r H' := by
 refine fun_of (W := W) ctx mixed (fn := Proofs.Tryd.f69) (c := b_insC) Proofs.Tryd.func69 (by kernel_rfl) (by kernel_rfl) (by kernel_rfl) (by rw [hW]; kernel_rfl) (by rw [hW]; exact hl) hno k hk ?_
 rw [hW, show Proofs.Tryd.f69.results.toList = [.tmp 6] by kernel_rfl]
 exact hv
abbrev F_jobs1 : Nat := 70
noncomputable def b_jobs1 : Code := Proofs.Tryd.f70.body.getD .skip
theorem inE_jobs1 {W : Way} (hW : W.nt = 24) {args : List AV} {H : List (Nat × Blk)} {r : AV} {H' : List (Nat × Blk)} (k : Nat) (hl : args.length ≤ 24) (hno : noTups args = true) {tm : List (Nat × AV)} {l : Nat} {q : Loop} (htd : distinct (keysOf tm) = true) (hfx : tmIn (under k) tm = tm)
  (hv : ∀ n, Holds C P 24 (domR n tm l q) k (FunPost C 24 k [] r H') (vc C W b_jobs1 [] (start args H) lf)) : FunE C P (extOf tm q.tmps) (some (l, q)) k F_jobs1 args H r H' := by
 refine iter_of (W := W) ctx mixed (fn := Proofs.Tryd.f70) (c := b_jobs1) Proofs.Tryd.func70 (by kernel_rfl) (by kernel_rfl) (by kernel_rfl) (by rw [hW]; kernel_rfl) (by rw [hW]; exact hl) hno k htd hfx ?_
 rw [hW, show Proofs.Tryd.f70.results.toList = [] by kernel_rfl]
 exact hv
theorem nm_jobs1 : Proofs.Tryd.f70.body = some b_jobs1 := by kernel_rfl
theorem ng_jobs1 : (Proofs.Tryd.f70.name == "runtime.NumGoroutine") = false := by kernel_rfl
abbrev F_cmpI : Nat := 71
noncomputable def b_cmpI : Code := Proofs.Tryd.f71.body.getD .skip
theorem in_cmpI {W : Way} (hW : W.nt = 36) {args : List AV} {H : List (Nat × Blk)} {r : AV} {H' : List (Nat × Blk)} (k : Nat) (hl : args.length ≤ 36) (hno : noTups args = true) (hk : ∀ id, look H id ≠ none → id < k)
  (hv : ∀ D, Holds C P 36 D k (FunPost C 36 k [.tmp 4] r H') (vc C W b_cmpI [] (start args H) lf)) : Fun C P F_cmpI args H r H' := by
 refine fun_of (W := W) ctx mixed (fn := Proofs.Tryd.f71) (c := b_cmpI) Proofs.Tryd.func71 (by kernel_rfl) (by kernel_rfl) (by kernel_rfl) (by rw [hW]; kernel_rfl) (by rw [hW]; exact hl) hno k hk ?_
 rw [hW, show Proofs.Tryd.f71.results.toList = [.tmp 4] by kernel_rfl]
 exact hv
abbrev F_left : Nat := 72
noncomputable def b_left : Code := Proofs.Tryd.f72.body.getD .skip
theorem in_left {W : Way} (hW : W.nt = 13) {args : List AV} {H : List (Nat × Blk)} {r : AV} {H' : List (Nat × Blk)} (k : Nat) (hl : args.length ≤ 13) (hno : noTups args = true) (hk : ∀ id, look H id ≠ none → id < k)
  (hv : ∀ D, Holds C P 13 D k (FunPost C 13 k [.tmp 4] r H') (vc C W b_left [] (start args H) lf)) : Fun C P F_left args H r H' := by
 refine fun_of (W := W) ctx mixed (fn := Proofs.Tryd.f72) (c := b_left) Proofs.Tryd.func72 (by kernel_rfl) (by kernel_rfl) (by kernel_rfl) (by rw [hW]; kernel_rfl) (by rw [hW]; exact hl) hno k hk ?_
 rw [hW, show Proofs.Tryd.f72.results.toList = [.tmp 4] by kernel_rfl]
 exact hv
abbrev F_idxF : Nat := 73
noncomputable def b_idxF : Code := Proofs.Tryd.f73.body.getD .skip
theorem in_idxF {W : Way} (hW : W.nt = 19) {args : List AV} {H : List (Nat × Blk)} {r : AV} {H' : List (Nat × Blk)} (k : Nat) (hl : args.length ≤ 19) (hno : noTups args = true) (hk : ∀ id, look H id ≠ none → id < k)
  (hv : ∀ D, Holds C P 19 D k (FunPost C 19 k [.tmp 4] r H') (vc C W b_idxF [] (start args H) lf)) : Fun C P F_idxF args H r H' := by
 refine fun_of (W := W) ctx mixed (fn := Proofs.Tryd.f73) (c := b_idxF) Proofs.Tryd.func73 (by kernel_rfl) (by kernel_rfl) (by kernel_rfl) (by rw [hW]; kernel_rfl) (by rw [hW]; exact hl) hno k hk ?_
 rw [hW, show Proofs.Tryd.f73.results.toList = [.tmp 4] by kernel_rfl]
 exact hv
abbrev F_turns : Nat := 74
noncomputable def b_turns : Code := Proofs.Tryd.f74.body.getD .skip
theorem in_turns {W : Way} (hW : W.nt = 29) {args : List AV} {H : List (Nat × Blk)} {r : AV} {H' : List (Nat × Blk)} (k : Nat) (hl : args.length ≤ 29) (hno : noTups args = true) (hk : ∀ id, look H id ≠ none → id < k)
  (hv : ∀ D, Holds C P 29 D k (FunPost C 29 k [.cell 0 109] r H') (vc C W b_turns [] (start args H) lf)) : Fun C P F_turns args H r H' := by
 refine fun_of (W := W) ctx mixed (fn := Proofs.Tryd.f74) (c := b_turns) Proofs.Tryd.func74 (by kernel_rfl) (by kernel_rfl) (by kernel_rfl) (by rw [hW]; kernel_rfl) (by rw [hW]; exact hl) hno k hk ?_
 rw [hW, show Proofs.Tryd.f74.results.toList = [.cell 0 109] by kernel_rfl]
 exact hv
abbrev F_mix : Nat := 75
noncomputable def b_mix : Code := Proofs.Tryd.f75.body.getD .skip
theorem in_mix {W : Way} (hW : W.nt = 37) {args : List AV} {H : List (Nat × Blk)} {r : AV} {H' : List (Nat × Blk)} (k : Nat) (hl : args.length ≤ 37) (hno : noTups args = true) (hk : ∀ id, look H id ≠ none → id < k)
  (hv : ∀ D, Holds C P 37 D k (FunPost C 37 k [] r H') (vc C W b_mix [] (start args H) lf)) : Fun C P F_mix args H r H' := by
 refine fun_of (W := W) ctx mixed (fn := Proofs.Tryd.f75) (c := b_mix) Proofs.Tryd.func75 (by kernel_rfl) (by kernel_rfl) (by kernel_rfl) (by rw [hW]; kernel_rfl) (by rw [hW]; exact hl) hno k hk ?_
 rw [hW, show Proofs.Tryd.f75.results.toList = [] by kernel_rfl]
 exact hv
abbrev F_round : Nat := 76
noncomputable def b_round : Code := Proofs.Tryd.f76.body.getD .skip
theorem in_round {W : Way} (hW : W.nt = 104) {args : List AV} {H : List (Nat × Blk)} {r : AV} {H' : List (Nat × Blk)} (k : Nat) (hl : args.length ≤ 104) (hno : noTups args = true) (hk : ∀ id, look H id ≠ none → id < k)
  (hv : ∀ D, Holds C P 104 D k (FunPost C 104 k [.cell 6 112] r H') (vc C W b_round [] (start args H) lf)) : Fun C P F_round args H r H' := by
 refine fun_of (W := W) ctx mixed (fn := Proofs.Tryd.f76) (c := b_round) Proofs.Tryd.func76 (by kernel_rfl) (by kernel_rfl) (by kernel_rfl) (by rw [hW]; kernel_rfl) (by rw [hW]; exact hl) hno k hk ?_
 rw [hW, show Proofs.Tryd.f76.results.toList = [.cell 6 112] by kernel_rfl]
 exact hv
abbrev F_ccmp : Nat := 79
noncomputable def b_ccmp : Code := Proofs.Tryd.f79.body.getD .skip
theorem in_ccmp {W : Way} (hW : W.nt = 20) {args : List AV} {H : List (Nat × Blk)} {r : AV} {H' : List (Nat × Blk)} (k : Nat) (hl : args.length ≤ 20) (hno : noTups args = true) (hk : ∀ id, look H id ≠ none → id < k)
  (hv : ∀ D, Holds C P 20 D k (FunPost C 20 k [.tmp 4] r H') (vc C W b_ccmp [] (start args H) lf)) : Fun C P F_ccmp args H r H' := by
 refine fun_of (W := W) ctx mixed (fn := Proofs.Tryd.f79) (c := b_ccmp) Proofs.Tryd.func79 (by kernel_rfl) (by kernel_rfl) (by kernel_rfl) (by rw [hW]; kernel_rfl) (by rw [hW]; exact hl) hno k hk ?_
 rw [hW, show Proofs.Tryd.f79.results.toList = [.tmp 4] by kernel_rfl]
 exact hv
abbrev F_rotl : Nat := 80
noncomputable def b_rotl : Code := Proofs.Tryd.f80.body.getD .skip
theorem in_rotl {W : Way} (hW : W.nt = 17) {args : List AV} {H : List (Nat × Blk)} {r : AV} {H' : List (Nat × Blk)} (k : Nat) (hl : args.length ≤ 17) (hno : noTups args = true) (hk : ∀ id, look H id ≠ none → id < k)
  (hv : ∀ D, Holds C P 17 D k (FunPost C 17 k [.tmp 4] r H') (vc C W b_rotl [] (start args H) lf)) : Fun C P F_rotl args H r H' := by
 refine fun_of (W := W) ctx mixed (fn := Proofs.Tryd.f80) (c := b_rotl) Proofs.Tryd.func80 (by kernel_rfl) (by kernel_rfl) (by kernel_rfl) (by rw [hW]; kernel_rfl) (by rw [hW]; exact hl) hno k hk ?_
 rw [hW, show Proofs.Tryd.f80.results.toList = [.tmp 4] by kernel_rfl]
 exact hv
abbrev F_isnan : Nat := 82
noncomputable def b_isnan : Code := Proofs.Tryd.f82.body.getD .skip
theorem in_isnan {W : Way} (hW : W.nt = 6) {args : List AV} {H : List (Nat × Blk)} {r : AV} {H' : List (Nat × Blk)} (k : Nat) (hl : args.length ≤ 6) (hno : noTups args = true) (hk : ∀ id, look H id ≠ none → id < k)
  (hv : ∀ D, Holds C P 6 D k (FunPost C 6 k [.tmp 2] r H') (vc C W b_isnan [] (start args H) lf)) : Fun C P F_isnan args H r H' := by
 refine fun_of (W := W) ctx mixed (fn := Proofs.Tryd.f82) (c := b_isnan) Proofs.Tryd.func82 (by kernel_rfl) (by kernel_rfl) (by kernel_rfl) (by rw [hW]; kernel_rfl) (by rw [hW]; exact hl) hno k hk ?_
 rw [hW, show Proofs.Tryd.f82.results.toList = [.tmp 2] by kernel_rfl]
 exact hv
abbrev F_idxW : Nat := 73
noncomputable def b_idxW : Code := Proofs.Tryd.f73.body.getD .skip
theorem in_idxW {W : Way} (hW : W.nt = 19) {args : List AV} {H : List (Nat × Blk)} {r : AV} {H' : List (Nat × Blk)} (k : Nat) (hl : args.length ≤ 19) (hno : noTups args = true) (hk : ∀ id, look H id ≠ none → id < k)
  (hv : ∀ D, Holds C P 19 D k (FunPost C 19 k [.tmp 4] r H') (vc C W b_idxW [] (start args H) lf)) : Fun C P F_idxW args H r H' := by
 refine fun_of (W := W) ctx mixed (fn := Proofs.Tryd.f73) (c := b_idxW) Proofs.Tryd.func73 (by kernel_rfl) (by kernel_rfl) (by kernel_rfl) (by rw [hW]; kernel_rfl) (by rw [hW]; exact hl) hno k hk ?_
 rw [hW, show Proofs.Tryd.f73.results.toList = [.tmp 4] by kernel_rfl]
 exact hv
abbrev F_delW : Nat := 58
noncomputable def b_delW : Code := Proofs.Tryd.f58.body.getD .skip
theorem in_delW {W : Way} (hW : W.nt = 42) {args : List AV} {H : List (Nat × Blk)} {r : AV} {H' : List (Nat × Blk)} (k : Nat) (hl : args.length ≤ 42) (hno : noTups args = true) (hk : ∀ id, look H id ≠ none → id < k)
  (hv : ∀ D, Holds C P 42 D k (FunPost C 42 k [.tmp 4] r H') (vc C W b_delW [] (start args H) lf)) : Fun C P F_delW args H r H' := by
 refine fun_of (W := W) ctx mixed (fn := Proofs.Tryd.f58) (c := b_delW) Proofs.Tryd.func58 (by kernel_rfl) (by kernel_rfl) (by kernel_rfl) (by rw [hW]; kernel_rfl) (by rw [hW]; exact hl) hno k hk ?_
 rw [hW, show Proofs.Tryd.f58.results.toList = [.tmp 4] by kernel_rfl]
 exact hv
abbrev F_stream : Nat := 100000
abbrev F_rstream : Nat := 100001
abbrev F_of : Nat := 100002
abbrev F_rof : Nat := 100003
abbrev F_eight : Nat := 100004
end Go.Bu.W
namespace Go.Bu.W
structure Cl where
  i : Int
  s : Int
  b : List Nat
  h : Nat → Nat
structure Jb where
  dr : Bool
  c : Cl
structure Dk where
  l : List Cl
  q : List Jb
def cl0 : Cl := ⟨0, 0, [], fun _ => 0⟩
def ltC (a c : Cl) : Bool := decide (a.i < c.i) || (decide (a.i = c.i) && decide (a.s < c.s))
theorem lt_iff {a c : Cl} : ltC a c = true ↔ a.i < c.i ∨ (a.i = c.i ∧ a.s < c.s) := by
 unfold ltC; simp
theorem lt_no {a c : Cl} : ltC a c = false ↔ ¬ (a.i < c.i ∨ (a.i = c.i ∧ a.s < c.s)) := by
 rw [← lt_iff, Bool.not_eq_true]
theorem lt_trans {a b c : Cl} (h1 : ltC a b = true) (h2 : ltC b c = true) : ltC a c = true := by
 rw [lt_iff] at *; omega
def SoC (l : List Cl) : Prop := l.Pairwise fun a b => ltC a b = true
def perf (l : List Cl) (j : Jb) : List Cl :=
 if j.dr = true then l.filter (fun a => decide (a.i ≠ j.c.i)) else l.filter (fun a => ltC a j.c) ++ j.c :: l.filter (fun a => ltC j.c a)
theorem perf_so {l : List Cl} (h : SoC l) (j : Jb) : SoC (perf l j) := by
 unfold perf
 split
 ·exact List.Pairwise.filter _ h
 ·refine List.pairwise_append.2 ⟨List.Pairwise.filter _ h, List.pairwise_cons.2 ⟨fun a ha => ?_, List.Pairwise.filter _ h⟩, fun a ha b hb => ?_⟩
  ·exact (List.mem_filter.1 ha).2
  ·have h1 := (List.mem_filter.1 ha).2
   rcases List.mem_cons.1 hb with rfl | hb
   ·exact h1
   ·exact lt_trans h1 (List.mem_filter.1 hb).2
theorem mem_perf {l : List Cl} {j : Jb} {a : Cl} (h : a ∈ perf l j) : a ∈ l ∨ (j.dr = false ∧ a = j.c) := by
 unfold perf at h
 split at h
 ·exact .inl (List.mem_filter.1 h).1
 ·rename_i hd
  rcases List.mem_append.1 h with h | h
  ·exact .inl (List.mem_filter.1 h).1
  ·rcases List.mem_cons.1 h with h | h
   ·exact .inr ⟨by simpa using hd, h⟩
   ·exact .inl (List.mem_filter.1 h).1
def getC (l : List Cl) (i s : Int) : Option Cl := l.find? fun c => decide (c.i = i) && decide (c.s = s)
def seB (a c : Cl) : Bool := decide (a.i = c.i) && decide (a.s = c.s)
theorem se_iff {a c : Cl} : seB a c = true ↔ a.i = c.i ∧ a.s = c.s := by unfold seB; simp
theorem se_no {a c : Cl} : seB a c = false ↔ ¬ (a.i = c.i ∧ a.s = c.s) := by rw [← se_iff, Bool.not_eq_true]
theorem filter_no {p : Cl → Bool} {l : List Cl} (h : ∀ a, a ∈ l → p a = false) : l.filter p = [] := by
 rw [List.filter_eq_nil_iff]; intro a ha; rw [h a ha]; simp
theorem filter_all {p : Cl → Bool} {l : List Cl} (h : ∀ a, a ∈ l → p a = true) : l.filter p = l := List.filter_eq_self.2 h
theorem split3 : ∀ {l : List Cl}, SoC l → ∀ c, l = l.filter (fun a => ltC a c) ++ (l.filter (fun a => seB a c) ++ l.filter (fun a => ltC c a))
 | [], _, _ => rfl
 | a :: r, h, c => by
  obtain ⟨h1, h2⟩ := List.pairwise_cons.1 h
  have ih := split3 h2 c
  by_cases hlt : ltC a c = true
  ·have e2 : seB a c = false := by rw [se_no]; rw [lt_iff] at hlt; omega
   have e3 : ltC c a = false := by rw [lt_no]; rw [lt_iff] at hlt; omega
   rw [List.filter_cons, List.filter_cons, List.filter_cons, if_pos hlt, if_neg (by rw [e2]; simp), if_neg (by rw [e3]; simp), List.cons_append, ← ih]
  ·have hlt2 : ltC a c = false := by rwa [Bool.not_eq_true] at hlt
   have hge : ∀ b, b ∈ r → ltC c b = true := fun b hb => by
    have := h1 b hb
    rw [lt_no] at hlt2
    rw [lt_iff] at this ⊢
    omega
   have f1 : r.filter (fun a => ltC a c) = [] := filter_no fun b hb => by have := hge b hb; rw [lt_iff] at this; rw [lt_no]; omega
   have f2 : r.filter (fun a => seB a c) = [] := filter_no fun b hb => by have := hge b hb; rw [lt_iff] at this; rw [se_no]; omega
   have f3 : r.filter (fun a => ltC c a) = r := filter_all hge
   rw [List.filter_cons, List.filter_cons, List.filter_cons, if_neg hlt, f1, f2, f3]
   by_cases hse : seB a c = true
   ·have e3 : ltC c a = false := by rw [lt_no]; rw [se_iff] at hse; omega
    rw [if_pos hse, if_neg (by rw [e3]; simp)]; rfl
   ·have e3 : ltC c a = true := by
     have hse2 : seB a c = false := by rwa [Bool.not_eq_true] at hse
     rw [se_no] at hse2
     rw [lt_no] at hlt2
     rw [lt_iff]; omega
    rw [if_neg hse, if_pos e3]; rfl
theorem same_one {l : List Cl} (h : SoC l) (c : Cl) : l.filter (fun a => seB a c) = [] ∨ ∃ a, l.filter (fun a => seB a c) = [a] ∧ seB a c = true := by
 have hp : (l.filter (fun a => seB a c)).Pairwise fun a b => ltC a b = true := List.Pairwise.filter _ h
 have hm : ∀ a, a ∈ l.filter (fun a => seB a c) → seB a c = true := fun a ha => (List.mem_filter.1 ha).2
 match hl : l.filter (fun a => seB a c), hp, hm with
 | [], _, _ => exact .inl rfl
 | [a], _, hm => exact .inr ⟨a, rfl, hm a (List.mem_singleton.2 rfl)⟩
 | a :: b :: r, hp, hm =>
  have h1 := (List.pairwise_cons.1 hp).1 b (List.mem_cons_self ..)
  have h2 := hm a (List.mem_cons_self ..)
  have h3 := hm b (List.mem_cons_of_mem _ (List.mem_cons_self ..))
  rw [se_iff] at h2 h3
  rw [lt_iff] at h1
  omega
def plC (l : List Cl) (c : Cl) : Nat := (l.filter fun a => ltC a c).length
def hsC (l : List Cl) (c : Cl) : Bool := l.any fun a => seB a c
theorem bs_take {l : List Cl} (h : SoC l) (c : Cl) : l.take (plC l c) = l.filter fun a => ltC a c := by
 have := split3 h c
 unfold plC
 rw [this]
 have e : ((l.filter (fun a => ltC a c) ++ (l.filter (fun a => seB a c) ++ l.filter (fun a => ltC c a))).filter fun a => ltC a c) = l.filter fun a => ltC a c := by rw [← this]
 rw [e, List.take_left' rfl]
theorem bs_drop {l : List Cl} (h : SoC l) (c : Cl) : l.drop (plC l c) = l.filter (fun a => seB a c) ++ l.filter (fun a => ltC c a) := by
 have h1 := split3 h c
 rw [← bs_take h c] at h1
 exact List.append_cancel_left (h1.symm.trans (List.take_append_drop _ _).symm).symm
theorem perf_ins {l : List Cl} (h : SoC l) {c : Cl} (hb : hsC l c = false) : perf l ⟨false, c⟩ = l.take (plC l c) ++ c :: l.drop (plC l c) := by
 rw [bs_take h, bs_drop h]
 have e : l.filter (fun a => seB a c) = [] := filter_no fun a ha => by
  unfold hsC at hb
  rw [List.any_eq_false] at hb
  have := hb a ha
  rwa [Bool.not_eq_true] at this
 rw [e]; rfl
theorem perf_set {l : List Cl} (h : SoC l) {c : Cl} (hb : hsC l c = true) : plC l c < l.length ∧ perf l ⟨false, c⟩ = l.take (plC l c) ++ c :: l.drop (plC l c + 1) := by
 have h2 := bs_drop h c
 have e : ∃ a, l.filter (fun a => seB a c) = [a] := by
  rcases same_one h c with e | ⟨a, e, _⟩
  ·obtain ⟨a, ha, hs⟩ := List.any_eq_true.1 hb
   have : a ∈ l.filter (fun a => seB a c) := List.mem_filter.2 ⟨ha, hs⟩
   rw [e] at this; cases this
  ·exact ⟨a, e⟩
 obtain ⟨a, e⟩ := e
 rw [e] at h2
 have hl : (l.drop (plC l c)).length = (l.filter fun a => ltC c a).length + 1 := by rw [h2]; simp
 rw [List.length_drop] at hl
 refine ⟨by omega, ?_⟩
 rw [bs_take h, ← List.drop_drop, h2]; rfl
def outC (l : List Cl) (j : Jb) (i : Nat) : List Cl :=
 if j.dr = true then (l.take i).filter (fun a => decide (a.i ≠ j.c.i))
 else (l.take i).filter (fun a => ltC a j.c) ++ if (l.take i).any (fun a => !ltC a j.c) = true then j.c :: (l.take i).filter (fun a => ltC j.c a) else []
def donC (l : List Cl) (j : Jb) (i : Nat) : Bool := j.dr || (l.take i).any fun a => !ltC a j.c
theorem out_end {l : List Cl} {j : Jb} : outC l j l.length ++ (if donC l j l.length = true then [] else [j.c]) = perf l j := by
 unfold outC donC perf
 rw [List.take_length]
 by_cases hd : j.dr = true
 ·rw [if_pos hd, if_pos hd, hd]; simp
 ·have hd2 : j.dr = false := by rwa [Bool.not_eq_true] at hd
  rw [if_neg hd, if_neg hd, hd2, Bool.false_or]
  by_cases ha : l.any (fun a => !ltC a j.c) = true
  ·rw [if_pos ha, if_pos ha, List.append_nil]
  ·rw [if_neg ha, if_neg ha, List.append_nil]
   rw [Bool.not_eq_true, List.any_eq_false] at ha
   have e : l.filter (fun a => ltC j.c a) = [] := filter_no fun a h => by
    have h1 := ha a h
    have h1 : ltC a j.c = true := by simpa using h1
    rw [lt_iff] at h1
    rw [lt_no]; omega
   rw [e]
theorem out_step {l : List Cl} (h : SoC l) {j : Jb} {i : Nat} (hi : i < l.length) :
  outC l j (i + 1) = outC l j i ++ ((if (!donC l j i && !ltC l[i] j.c) = true then [j.c] else []) ++ if (decide (l[i].i ≠ j.c.i) || (!j.dr && decide (l[i].s ≠ j.c.s))) = true then [l[i]] else []) ∧
  donC l j (i + 1) = (donC l j i || (!donC l j i && !ltC l[i] j.c)) := by
 have ht : l.take (i + 1) = l.take i ++ [l[i]] := by rw [List.take_succ_eq_append_getElem hi]
 have hbef : ∀ a, a ∈ l.take i → ltC a l[i] = true := fun a ha => by
  obtain ⟨k, hk, rfl⟩ := List.getElem_of_mem ha
  rw [List.getElem_take]
  rw [List.length_take] at hk
  exact List.pairwise_iff_getElem.1 h k i (by omega) hi (by omega)
 obtain ⟨a, ea⟩ : ∃ a, a = l[i] := ⟨_, rfl⟩
 rw [← ea] at ht hbef ⊢
 obtain ⟨t, et⟩ : ∃ t, t = l.take i := ⟨_, rfl⟩
 unfold outC donC
 rw [ht]
 rw [← et] at hbef ⊢
 by_cases hd : j.dr = true
 ·rw [if_pos hd, if_pos hd, hd, List.filter_append]
  simp
  by_cases hx : a.i = j.c.i <;> simp [hx]
 ·have hd2 : j.dr = false := by rwa [Bool.not_eq_true] at hd
  rw [if_neg hd, if_neg hd, hd2]
  simp only [Bool.false_or, List.any_append, List.filter_append, Bool.not_false, Bool.true_and]
  have e1 : [a].any (fun a => !ltC a j.c) = !ltC a j.c := by simp
  rw [e1]
  by_cases hlt : ltC a j.c = true
  ·have hno : t.any (fun a => !ltC a j.c) = false := by
    rw [List.any_eq_false]
    intro b hb
    rw [lt_trans (hbef b hb) hlt]; simp
   have hne : (decide (a.i ≠ j.c.i) || decide (a.s ≠ j.c.s)) = true := by
    rw [lt_iff] at hlt
    simp only [Bool.or_eq_true, decide_eq_true_eq]; omega
   rw [hno, hlt, hne]
   simp [hlt]
  ·have hlt2 : ltC a j.c = false := by rwa [Bool.not_eq_true] at hlt
   have hgt : [a].filter (fun a => ltC j.c a) = if (decide (a.i ≠ j.c.i) || decide (a.s ≠ j.c.s)) = true then [a] else [] := by
    rw [List.filter_cons]
    have e : ltC j.c a = (decide (a.i ≠ j.c.i) || decide (a.s ≠ j.c.s)) := by
     rw [Bool.eq_iff_iff, lt_iff, Bool.or_eq_true, decide_eq_true_eq, decide_eq_true_eq]
     rw [lt_no] at hlt2
     omega
    rw [e]; rfl
   have hl0 : [a].filter (fun a => ltC a j.c) = [] := filter_no fun b hb => by rw [List.mem_singleton.1 hb]; exact hlt2
   rw [hgt, hl0, hlt2]
   by_cases hno : t.any (fun a => !ltC a j.c) = true
   ·rw [hno]; simp
   ·have hno2 : t.any (fun a => !ltC a j.c) = false := by rwa [Bool.not_eq_true] at hno
    have hg0 : t.filter (fun a => ltC j.c a) = [] := filter_no fun b hb => by
     have h1 := List.any_eq_false.1 hno2 b hb
     have h1 : ltC b j.c = true := by simpa using h1
     rw [lt_iff] at h1
     rw [lt_no]; omega
    rw [hno2, hg0]; simp
end Go.Bu.W
namespace Go.Bu.W
open Sp
theorem perf_len1 {l : List Cl} (h : SoC l) (j : Jb) : (perf l j).length ≤ l.length + 1 := by
 unfold perf
 split
 ·have := List.length_filter_le (fun a => decide (a.i ≠ j.c.i)) l; omega
 ·have h1 := congrArg List.length (split3 h j.c)
  rw [List.length_append, List.length_append] at h1
  rw [List.length_append, List.length_cons]; omega
def jb0 : Jb := ⟨true, cl0⟩
def prN (f : Nat → Bool) (l : List Cl) (q : List Jb) : Nat → List Cl
 | 0 => l
 | i + 1 => if f i = true then perf (prN f l q i) (q.getD i jb0) else prN f l q i
theorem prN_so {f : Nat → Bool} {l : List Cl} (h : SoC l) (q : List Jb) : ∀ i, SoC (prN f l q i)
 | 0 => h
 | i + 1 => by
  unfold prN
  split
  ·exact perf_so (prN_so h q i) _
  ·exact prN_so h q i
theorem prN_len {f : Nat → Bool} {l : List Cl} (h : SoC l) (q : List Jb) : ∀ i, (prN f l q i).length ≤ l.length + i
 | 0 => Nat.le_refl _
 | i + 1 => by
  have ih := prN_len (f := f) h q i
  unfold prN
  split
  ·have := perf_len1 (prN_so (f := f) h q i) (q.getD i jb0); omega
  ·omega
theorem prN_mem {f : Nat → Bool} {l : List Cl} {q : List Jb} {a : Cl} : ∀ {i}, a ∈ prN f l q i → a ∈ l ∨ ∃ k, k < i ∧ (q.getD k jb0).dr = false ∧ a = (q.getD k jb0).c
 | 0, h => .inl h
 | i + 1, h => by
  have rec' : a ∈ prN f l q i → a ∈ l ∨ ∃ k, k < i + 1 ∧ (q.getD k jb0).dr = false ∧ a = (q.getD k jb0).c := fun h => by
   rcases prN_mem h with h | ⟨k, hk, h⟩
   ·exact .inl h
   ·exact .inr ⟨k, by omega, h⟩
  unfold prN at h
  split at h
  ·rcases mem_perf h with h | ⟨h1, h2⟩
   ·exact rec' h
   ·exact .inr ⟨i, by omega, h1, h2⟩
  ·exact rec' h
theorem prN_stop {f : Nat → Bool} {l : List Cl} {q : List Jb} {m : Nat} (hf : ∀ i, m ≤ i → f i = false) : ∀ {n}, m ≤ n → prN f l q n = prN f l q m
 | 0, h => by rw [show m = 0 by omega]
 | n + 1, h => by
  by_cases e : m = n + 1
  ·rw [e]
  ·have h2 : f n = false := hf n (by omega)
   show (if f n = true then _ else _) = _
   rw [if_neg (by rw [h2]; simp)]
   exact prN_stop hf (by omega)
def cont (d : Dk) : List Cl := prN (fun _ => true) d.l d.q d.q.length
def syncD (d : Dk) : Dk := ⟨cont d, []⟩
def crashD (d : Dk) (done : List Bool) : Dk := ⟨prN (fun i => done.getD i false) d.l d.q d.q.length, []⟩
def whC (c : Cl) : Bool := (List.range 32).all fun k => ((sumN c.b k : Nat) : Int) == ((c.h k : Nat) : Int)
theorem whC_sum (i s : Int) (b : List Nat) : whC ⟨i, s, b, sumN b⟩ = true := by
 unfold whC
 rw [List.all_eq_true]; intro k _; simp
def gotB (l : List Cl) (i s : Int) : List Nat := match getC l i s with
 | some c => if whC c = true then c.b else []
 | none => []
def gotE (l : List Cl) (i s : Int) : Int := match getC l i s with
 | some c => if whC c = true then 0 else 221
 | none => 220
def okC (c : Cl) : Prop := 0 ≤ c.i ∧ c.i < 4096 ∧ 0 ≤ c.s ∧ c.s < 12 ∧ c.b.length ≤ 1048576 ∧ Small c.b ∧ ∀ k, k < 32 → c.h k < 256
def okJ (j : Jb) : Prop := okC j.c ∧ (j.dr = false → whC j.c = true) ∧ (j.dr = true → j.c.s = 0 ∧ j.c.b = [] ∧ ∀ k, k < 32 → j.c.h k = 0)
structure VD (d : Dk) : Prop where
  cs : ∀ c, c ∈ d.l → okC c
  so : SoC d.l
  js : ∀ j, j ∈ d.q → okJ j
theorem VD.prN {d : Dk} (h : VD d) (f : Nat → Bool) {n : Nat} (hn : n ≤ d.q.length) : VD ⟨prN f d.l d.q n, []⟩ := by
 refine ⟨fun c hc => ?_, prN_so h.so _ _, fun j hj => (by cases hj)⟩
 rcases prN_mem hc with hc | ⟨k, hk, _, e⟩
 ·exact h.cs c hc
 ·rw [e, List.getD_eq_getElem?_getD, List.getElem?_eq_getElem (show k < d.q.length by omega)]
  exact (h.js _ (List.getElem_mem _)).1
theorem VD.sync {d : Dk} (h : VD d) : VD (syncD d) := h.prN _ (Nat.le_refl _)
theorem VD.crash {d : Dk} (h : VD d) (done : List Bool) : VD (crashD d done) := h.prN _ (Nat.le_refl _)
theorem VD.push {d : Dk} (h : VD d) {j : Jb} (hj : okJ j) : VD ⟨d.l, d.q ++ [j]⟩ :=
 ⟨h.cs, h.so, fun i hi => by
  rcases List.mem_append.1 hi with hi | hi
  ·exact h.js i hi
  ·rw [List.mem_singleton.1 hi]; exact hj⟩
theorem VD.nil : VD ⟨[], []⟩ := ⟨fun c h => (by cases h), List.Pairwise.nil, fun j h => (by cases h)⟩
theorem getC_some {l : List Cl} {i s : Int} {c : Cl} (h : getC l i s = some c) : c ∈ l ∧ c.i = i ∧ c.s = s := by
 unfold getC at h
 have h1 := List.find?_some h
 simp only [Bool.and_eq_true, decide_eq_true_eq] at h1
 exact ⟨List.mem_of_find?_eq_some h, h1⟩
theorem getC_mem {l : List Cl} (h : SoC l) {c : Cl} (hc : c ∈ l) : getC l c.i c.s = some c := by
 cases hx : getC l c.i c.s with
 | none =>
  unfold getC at hx
  have := List.find?_eq_none.1 hx c hc
  simp at this
 | some a =>
  obtain ⟨h1, h2, h3⟩ := getC_some hx
  have hp := List.pairwise_iff_getElem.1 h
  obtain ⟨m, hm, em⟩ := List.getElem_of_mem h1
  obtain ⟨n, hn, en⟩ := List.getElem_of_mem hc
  rcases Nat.lt_trichotomy m n with hmn | hmn | hmn
  ·have := hp m n hm hn hmn
   rw [em, en, lt_iff] at this; omega
  ·subst hmn; rw [← em, ← en]
  ·have := hp n m hn hm hmn
   rw [em, en, lt_iff] at this; omega
theorem getC_none {l : List Cl} {i s : Int} : getC l i s = none ↔ ∀ c, c ∈ l → ¬ (c.i = i ∧ c.s = s) := by
 unfold getC
 rw [List.find?_eq_none]
 constructor
 ·intro h c hc ⟨h1, h2⟩; exact h c hc (by simp [h1, h2])
 ·intro h c hc hx
  simp only [Bool.and_eq_true, decide_eq_true_eq] at hx
  exact h c hc hx
end Go.Bu.W
namespace Go.Bu.W
open Sp
def key (i s : Int) : Cl := ⟨i, s, [], fun _ => 0⟩
def badL (l : List Cl) : List Cl := l.filter fun c => !whC c
end Go.Bu.W
namespace Go.Bu.W
open Sp
def hz : Nat → Nat := fun _ => 0
def inRng (i s : Int) : Bool := decide (0 ≤ i) && (decide (i < 4096) && (decide (0 ≤ s) && decide (s < 12)))
theorem inRng_iff {i s : Int} : inRng i s = true ↔ 0 ≤ i ∧ i < 4096 ∧ 0 ≤ s ∧ s < 12 := by unfold inRng; simp
def pushD (d : Dk) (j : Jb) : Dk := ⟨d.l, d.q ++ [j]⟩
def putJ (i s : Int) (b : List Nat) : Jb := ⟨false, ⟨i, s, b, sumN b⟩⟩
def dropJ (i : Int) : Jb := ⟨true, ⟨i, 0, [], hz⟩⟩
def putD (d : Dk) (i s : Int) (b : List Nat) : Dk := if inRng i s = true then (if 1048576 < b.length then d else pushD d (putJ i s b)) else d
def putE (i s : Int) (b : List Nat) : Int := if inRng i s = true then (if 1048576 < b.length then 2 else 0) else 1
def dropD (d : Dk) (i : Int) : Dk := if inRng i 0 = true then pushD d (dropJ i) else d
def xorB (x y : Nat) : Nat := (bXor .u8 (x : Int) (y : Int)).toNat
def setB (c : Cl) (k y : Nat) : Cl := ⟨c.i, c.s, c.b.set k (xorB (c.b.getD k 0) y), c.h⟩
def rotOK (d : Dk) (c k : Int) : Bool := decide (0 ≤ c) && (decide (c < d.l.length) && (decide (0 ≤ k) && decide (k < (d.l.getD c.toNat cl0).b.length)))
def rotD (d : Dk) (c k : Int) (y : Nat) : Dk := if rotOK d c k = true then ⟨d.l.set c.toNat (setB (d.l.getD c.toNat cl0) k.toNat y), d.q⟩ else d
def rotE (d : Dk) (c k : Int) : Int := if rotOK d c k = true then 0 else 220
theorem xorB_lt (x y : Nat) : xorB x y < 256 := by
 unfold xorB bXor
 obtain ⟨z, hz⟩ : ∃ z : Int, z = ((BitVec.ofInt IntKind.u8.bits (x : Int) ^^^ BitVec.ofInt IntKind.u8.bits (y : Int)).toNat : Int) := ⟨_, rfl⟩
 rw [← hz]
 have h0 : 0 ≤ z := by omega
 obtain ⟨n, rfl⟩ := Int.eq_ofNat_of_zero_le h0
 rw [wrap_u8]; omega
theorem okJ_put {i s : Int} {b : List Nat} (h : inRng i s = true) (hl : b.length ≤ 1048576) (hs : Small b) : okJ (putJ i s b) := by
 obtain ⟨h1, h2, h3, h4⟩ := inRng_iff.1 h
 refine ⟨⟨h1, h2, h3, h4, hl, hs, fun k _ => ?_⟩, fun _ => whC_sum i s b, fun h => (by cases h)⟩
 show sumN b k < 256
 unfold sumN
 omega
theorem okJ_drop {i : Int} (h : inRng i 0 = true) : okJ (dropJ i) := by
 obtain ⟨h1, h2, _, _⟩ := inRng_iff.1 h
 exact ⟨⟨h1, h2, Int.le_refl 0, show (0 : Int) < 12 by decide, Nat.zero_le _, fun x hx => (by cases hx), fun k _ => show 0 < 256 by decide⟩, fun h => (by cases h), fun _ => ⟨rfl, rfl, fun k _ => rfl⟩⟩
theorem VD.put {d : Dk} (h : VD d) (i s : Int) {b : List Nat} (hs : Small b) : VD (putD d i s b) := by
 unfold putD
 split
 ·rename_i h1
  split
  ·exact h
  ·exact h.push (okJ_put h1 (by omega) hs)
 ·exact h
theorem VD.drop {d : Dk} (h : VD d) (i : Int) : VD (dropD d i) := by
 unfold dropD
 split
 ·rename_i h1; exact h.push (okJ_drop h1)
 ·exact h
theorem so_set {l : List Cl} (h : SoC l) {k : Nat} {c : Cl} (hi : c.i = (l.getD k cl0).i) (hs : c.s = (l.getD k cl0).s) : SoC (l.set k c) := by
 by_cases hk : k < l.length
 ·rw [List.getD_eq_getElem?_getD, List.getElem?_eq_getElem hk] at hi hs
  refine List.pairwise_iff_getElem.2 fun m n hm hn hmn => ?_
  rw [List.length_set] at hm hn
  have h0 := List.pairwise_iff_getElem.1 h m n hm hn hmn
  rw [List.getElem_set, List.getElem_set]
  rw [lt_iff] at h0 ⊢
  simp only [Option.getD_some] at hi hs
  by_cases e1 : k = m
  ·subst e1
   rw [if_pos rfl, if_neg (by omega), hi, hs]; exact h0
  ·by_cases e2 : k = n
   ·subst e2
    rw [if_neg e1, if_pos rfl, hi, hs]; exact h0
   ·rw [if_neg e1, if_neg e2]; exact h0
 ·rw [List.set_eq_of_length_le (by omega)]; exact h
theorem set_small {b : List Nat} (h : Small b) (k : Nat) {y : Nat} (hy : y < 256) : Small (b.set k y) := by
 intro x hx
 rcases List.mem_or_eq_of_mem_set hx with hx | rfl
 ·exact h x hx
 ·exact hy
theorem VD.rot {d : Dk} (h : VD d) (c k : Int) (y : Nat) : VD (rotD d c k y) := by
 unfold rotD
 split
 ·rename_i h1
  unfold rotOK at h1
  simp only [Bool.and_eq_true, decide_eq_true_eq] at h1
  obtain ⟨h2, h3, h4, h5⟩ := h1
  have hm : d.l.getD c.toNat cl0 ∈ d.l := by
   rw [List.getD_eq_getElem?_getD, List.getElem?_eq_getElem (show c.toNat < d.l.length by omega)]
   exact List.getElem_mem _
  refine ⟨fun a ha => ?_, so_set h.so rfl rfl, h.js⟩
  rcases List.mem_or_eq_of_mem_set ha with ha | rfl
  ·exact h.cs a ha
  ·obtain ⟨g1, g2, g3, g4, g5, g6, g7⟩ := h.cs _ hm
   refine ⟨g1, g2, g3, g4, ?_, set_small g6 _ (xorB_lt _ _), g7⟩
   show (List.set _ _ _).length ≤ _
   rw [List.length_set]; exact g5
 ·exact h
structure Rw where
  k : Nat
  i : Nat
  s : Nat
  b : List Nat
  dn : List Bool
def idN (n : Nat) : Int := match n % 5 with | 0 => 0 | 1 => 1 | 2 => 2 | 3 => 3 | _ => 4095
def stepD (d : Dk) (x : Rw) : Dk :=
 if x.k % 10 < 5 then putD d (idN x.i) (x.s % 4 : Nat) (x.b.take 20)
 else if x.k % 10 = 5 then dropD d (idN x.i)
 else if x.k % 10 < 8 then syncD d
 else if x.k % 10 = 8 then rotD d (x.i % 4 : Nat) (x.s % 4 : Nat) (1 + x.s % 7)
 else crashD d x.dn
def madeN (l : List Rw) : Nat → Dk
 | 0 => ⟨[], []⟩
 | n + 1 => stepD (madeN l n) (l.getD n ⟨0, 0, 0, [], []⟩)
theorem idN_in (n : Nat) : inRng (idN n) 0 = true ∧ (idN n = 0 ∨ idN n = 1 ∨ idN n = 2 ∨ idN n = 3 ∨ idN n = 4095) := by
 unfold idN
 split <;> simp [inRng]
theorem take_small {b : List Nat} (h : Small b) (n : Nat) : Small (b.take n) := fun x hx => h x (List.mem_of_mem_take hx)
theorem VD.step {d : Dk} (h : VD d) {x : Rw} (hx : Small x.b) : VD (stepD d x) := by
 unfold stepD
 split
 ·exact h.put _ _ (take_small hx 20)
 ·split
  ·exact h.drop _
  ·split
   ·exact h.sync
   ·split
    ·exact h.rot _ _ _
    ·exact h.crash _
theorem VD.made {l : List Rw} (h : ∀ x, x ∈ l → Small x.b) : ∀ n, VD (madeN l n)
 | 0 => VD.nil
 | n + 1 => by
  refine (VD.made h n).step ?_
  rw [List.getD_eq_getElem?_getD]
  cases hx : l[n]? with
  | none => exact fun x hx => (by cases hx)
  | some x => exact h x (List.mem_of_getElem? hx)
def fewC (c : Cl) : Prop := (c.i = 0 ∨ c.i = 1 ∨ c.i = 2 ∨ c.i = 3 ∨ c.i = 4095) ∧ 0 ≤ c.s ∧ c.s < 4 ∧ c.b.length ≤ 20
structure Few (d : Dk) (n : Nat) : Prop where
  len : d.l.length + d.q.length ≤ n
  cs : ∀ c, c ∈ d.l → fewC c
  js : ∀ j, j ∈ d.q → fewC j.c
theorem Few.prN {d : Dk} {n : Nat} (hv : SoC d.l) (h : Few d n) (f : Nat → Bool) : Few ⟨prN f d.l d.q d.q.length, []⟩ n := by
 refine ⟨?_, fun c hc => ?_, fun j hj => (by cases hj)⟩
 ·have := prN_len (f := f) hv d.q d.q.length
  have := h.len
  show (Go.Bu.W.prN f d.l d.q d.q.length).length + 0 ≤ n
  omega
 ·rcases prN_mem hc with hc | ⟨k, hk, _, e⟩
  ·exact h.cs c hc
  ·rw [e, List.getD_eq_getElem?_getD, List.getElem?_eq_getElem hk]
   exact h.js _ (List.getElem_mem _)
theorem Few.push {d : Dk} {n : Nat} (h : Few d n) {j : Jb} (hj : fewC j.c) : Few (pushD d j) (n + 1) := by
 refine ⟨?_, h.cs, fun i hi => ?_⟩
 ·have := h.len
  show d.l.length + (d.q ++ [j]).length ≤ n + 1
  rw [List.length_append]; simp only [List.length_singleton]; omega
 ·rcases List.mem_append.1 hi with hi | hi
  ·exact h.js i hi
  ·rw [List.mem_singleton.1 hi]; exact hj
theorem Few.mono {d : Dk} {n : Nat} (h : Few d n) : Few d (n + 1) := ⟨by have := h.len; omega, h.cs, h.js⟩
theorem Few.step {d : Dk} {n : Nat} (hv : SoC d.l) (h : Few d n) (x : Rw) : Few (stepD d x) (n + 1) := by
 obtain ⟨i1, i2⟩ := idN_in x.i
 unfold stepD
 split
 ·unfold putD
  split
  ·split
   ·exact h.mono
   ·exact h.push ⟨i2, by show (0 : Int) ≤ ((x.s % 4 : Nat) : Int); omega, by show ((x.s % 4 : Nat) : Int) < 4; omega, by show (x.b.take 20).length ≤ 20; rw [List.length_take]; omega⟩
  ·exact h.mono
 ·split
  ·unfold dropD
   rw [if_pos i1]
   exact h.push ⟨i2, Int.le_refl 0, show (0 : Int) < 4 by decide, Nat.zero_le _⟩
  ·split
   ·exact (h.prN hv _).mono
   ·split
    ·unfold rotD
     split
     ·rename_i h1
      unfold rotOK at h1
      simp only [Bool.and_eq_true, decide_eq_true_eq] at h1
      obtain ⟨h2, h3, h4, h5⟩ := h1
      refine ⟨by have := h.len; show (List.set _ _ _).length + d.q.length ≤ n + 1; rw [List.length_set]; omega, fun a ha => ?_, h.js⟩
      rcases List.mem_or_eq_of_mem_set ha with ha | rfl
      ·exact h.cs a ha
      ·have hm : d.l.getD (((x.i % 4 : Nat) : Int)).toNat cl0 ∈ d.l := by
        rw [List.getD_eq_getElem?_getD, List.getElem?_eq_getElem (show (((x.i % 4 : Nat) : Int)).toNat < d.l.length by omega)]
        exact List.getElem_mem _
       obtain ⟨g1, g2, g3, g4⟩ := h.cs _ hm
       exact ⟨g1, g2, g3, by show (List.set _ _ _).length ≤ 20; rw [List.length_set]; exact g4⟩
     ·exact h.mono
    ·exact (h.prN hv _).mono
theorem Few.made {l : List Rw} (h : ∀ x, x ∈ l → Small x.b) : ∀ n, Few (madeN l n) n
 | 0 => ⟨Nat.le_refl _, fun c hc => (by cases hc), fun j hj => (by cases hj)⟩
 | n + 1 => (Few.made h n).step (VD.made h n).so _
end Go.Bu.W

