/- The seat's types and variables, for the abstract machine. -/
import Derived.Test.YtelpjhdglgledaaDoorK12
import Derived.Test.YtelpjhdglgledaaDoorChecked
import Derived.Test.YtelpjhdglgledaaDoorK11
namespace Go.Bu.W
def tys : List TI := [
  ⟨.other, 0, 0⟩,
  ⟨.func, 1, 8⟩,
  ⟨.int .i64, 1, 8⟩,
  ⟨.int .i64, 1, 8⟩,
  ⟨.bool, 1, 1⟩,
  ⟨.int .u8, 1, 1⟩,
  ⟨.int .u8, 1, 1⟩,
  ⟨.struct [(2, 0), (3, 1), (4, 2), (6, 3)], 4, 24⟩,
  ⟨.struct [(2, 0), (3, 1), (4, 2), (6, 3)], 4, 24⟩,
  ⟨.str, 1, 16⟩,
  ⟨.str, 1, 16⟩,
  ⟨.str, 1, 16⟩,
  ⟨.int .u64, 1, 8⟩,
  ⟨.other, 0, 0⟩,
  ⟨.other, 0, 0⟩,
  ⟨.ptr 113, 1, 8⟩,
  ⟨.ptr 116, 1, 8⟩,
  ⟨.ptr 126, 1, 8⟩,
  ⟨.other, 0, 0⟩,
  ⟨.other, 0, 0⟩,
  ⟨.iface, 1, 16⟩,
  ⟨.int .i32, 1, 4⟩,
  ⟨.slice 23, 1, 24⟩,
  ⟨.int .u16, 1, 2⟩,
  ⟨.array 2 23 false, 2, 4⟩,
  ⟨.func, 1, 8⟩,
  ⟨.slice 49, 1, 24⟩,
  ⟨.struct [(26, 0)], 1, 24⟩,
  ⟨.struct [(26, 0)], 1, 24⟩,
  ⟨.func, 1, 8⟩,
  ⟨.func, 1, 8⟩,
  ⟨.func, 1, 8⟩,
  ⟨.array 32 5 false, 32, 32⟩,
  ⟨.array 32 5 false, 32, 32⟩,
  ⟨.int .i64, 1, 8⟩,
  ⟨.struct [(33, 0), (34, 32)], 33, 40⟩,
  ⟨.struct [(33, 0), (34, 32)], 33, 40⟩,
  ⟨.func, 1, 8⟩,
  ⟨.func, 1, 8⟩,
  ⟨.slice 28, 1, 24⟩,
  ⟨.slice 3, 1, 24⟩,
  ⟨.func, 1, 8⟩,
  ⟨.func, 1, 8⟩,
  ⟨.func, 1, 8⟩,
  ⟨.slice 5, 1, 24⟩,
  ⟨.func, 1, 8⟩,
  ⟨.func, 1, 8⟩,
  ⟨.slice 4, 1, 24⟩,
  ⟨.struct [(3, 0), (3, 1), (33, 2)], 34, 48⟩,
  ⟨.struct [(3, 0), (3, 1), (33, 2)], 34, 48⟩,
  ⟨.func, 1, 8⟩,
  ⟨.func, 1, 8⟩,
  ⟨.array 3 22 false, 3, 72⟩,
  ⟨.func, 1, 8⟩,
  ⟨.func, 1, 8⟩,
  ⟨.slice 44, 1, 24⟩,
  ⟨.func, 1, 8⟩,
  ⟨.array 2 3 false, 2, 16⟩,
  ⟨.func, 1, 8⟩,
  ⟨.func, 1, 8⟩,
  ⟨.func, 1, 8⟩,
  ⟨.func, 1, 8⟩,
  ⟨.other, 0, 0⟩,
  ⟨.func, 1, 8⟩,
  ⟨.struct [(28, 0), (34, 1)], 2, 32⟩,
  ⟨.struct [(28, 0), (34, 1)], 2, 32⟩,
  ⟨.func, 1, 8⟩,
  ⟨.func, 1, 8⟩,
  ⟨.array 3 23 false, 3, 6⟩,
  ⟨.func, 1, 8⟩,
  ⟨.other, 0, 0⟩,
  ⟨.func, 1, 8⟩,
  ⟨.func, 1, 8⟩,
  ⟨.func, 1, 8⟩,
  ⟨.func, 1, 8⟩,
  ⟨.func, 1, 8⟩,
  ⟨.func, 1, 8⟩,
  ⟨.func, 1, 8⟩,
  ⟨.other, 0, 0⟩,
  ⟨.func, 1, 8⟩,
  ⟨.func, 1, 8⟩,
  ⟨.int .u64, 1, 8⟩,
  ⟨.array 5 81 false, 5, 40⟩,
  ⟨.array 5 82 false, 25, 200⟩,
  ⟨.array 24 81 false, 24, 192⟩,
  ⟨.func, 1, 8⟩,
  ⟨.int .u64, 1, 8⟩,
  ⟨.func, 1, 8⟩,
  ⟨.func, 1, 8⟩,
  ⟨.func, 1, 8⟩,
  ⟨.func, 1, 8⟩,
  ⟨.func, 1, 8⟩,
  ⟨.func, 1, 8⟩,
  ⟨.func, 1, 8⟩,
  ⟨.func, 1, 8⟩,
  ⟨.func, 1, 8⟩,
  ⟨.func, 1, 8⟩,
  ⟨.slice 26, 1, 24⟩,
  ⟨.func, 1, 8⟩,
  ⟨.func, 1, 8⟩,
  ⟨.func, 1, 8⟩,
  ⟨.func, 1, 8⟩,
  ⟨.func, 1, 8⟩,
  ⟨.func, 1, 8⟩,
  ⟨.array 25 3 false, 25, 200⟩,
  ⟨.func, 1, 8⟩,
  ⟨.array 25 81 false, 25, 200⟩,
  ⟨.array 25 81 false, 25, 200⟩,
  ⟨.func, 1, 8⟩,
  ⟨.func, 1, 8⟩,
  ⟨.func, 1, 8⟩,
  ⟨.func, 1, 8⟩,
  ⟨.other, 0, 0⟩,
  ⟨.other, 0, 0⟩,
  ⟨.other, 0, 0⟩,
  ⟨.other, 0, 0⟩,
  ⟨.other, 0, 0⟩,
  ⟨.func, 1, 8⟩,
  ⟨.int .u32, 1, 4⟩,
  ⟨.int .u8, 1, 1⟩,
  ⟨.int .u8, 1, 1⟩,
  ⟨.func, 1, 8⟩,
  ⟨.ptr 5, 1, 8⟩,
  ⟨.int .i32, 1, 4⟩,
  ⟨.int .i32, 1, 4⟩,
  ⟨.other, 0, 0⟩,
  ⟨.other, 0, 0⟩,
  ⟨.other, 0, 0⟩]


def wordsAV : AV := .arr 24 1 (fun i => u64 (Sp.wordsN i))
def gls (g : Nat) : Option AV := match g with | 0 => some wordsAV | _ => none
def C : Ctx := ⟨ttOf tys, gls⟩
noncomputable abbrev P : Program := Proofs.Tryd.prog

set_option maxRecDepth 100000 in
theorem ctx : CtxOK C P := ctx_ok (by kernel_rfl) (by kernel_rfl) (by kernel_rfl) (by kernel_rfl)
theorem mixed : P.follows .mixedOrders = true := Checked.mixed Proofs.Tryd.checked
end Go.Bu.W

namespace Go.Bu.W
abbrev F_lkd : Nat := 3
noncomputable def b_lkd : Code := Proofs.Tryd.f3.body.getD .skip
abbrev l_lkd_0 : List Nat := [1, 1, 1, 1, 1, 1, 1, 0, 1, 0]
theorem in_lkd {W : Way} (hW : W.nt = 79) {args : List AV} {H : List (Nat × Blk)} {r : AV} {H' : List (Nat × Blk)} (k : Nat) (hl : args.length ≤ 79) (hno : noTups args = true) (hk : ∀ id, look H id ≠ none → id < k)
    (hv : ∀ D, Holds C P 79 D k (FunPost C 79 k [.tmp 6] r H') (vc C W b_lkd [] (start args H) lf)) : Fun C P F_lkd args H r H' := by
  refine fun_of (W := W) ctx mixed (fn := Proofs.Tryd.f3) (c := b_lkd) Proofs.Tryd.func3 (by kernel_rfl) (by kernel_rfl) (by kernel_rfl) (by rw [hW]; kernel_rfl) (by rw [hW]; exact hl) hno k hk ?_
  rw [hW, show Proofs.Tryd.f3.results.toList = [.tmp 6] by kernel_rfl]
  exact hv
abbrev F_lko : Nat := 4
noncomputable def b_lko : Code := Proofs.Tryd.f4.body.getD .skip
abbrev l_lko_0 : List Nat := [1, 1, 1, 1, 1, 1, 0, 1, 0]
abbrev l_lko_1 : List Nat := [1, 1, 1, 1, 1, 1, 1, 0, 1, 0]
theorem in_lko {W : Way} (hW : W.nt = 83) {args : List AV} {H : List (Nat × Blk)} {r : AV} {H' : List (Nat × Blk)} (k : Nat) (hl : args.length ≤ 83) (hno : noTups args = true) (hk : ∀ id, look H id ≠ none → id < k)
    (hv : ∀ D, Holds C P 83 D k (FunPost C 83 k [.tmp 6] r H') (vc C W b_lko [] (start args H) lf)) : Fun C P F_lko args H r H' := by
  refine fun_of (W := W) ctx mixed (fn := Proofs.Tryd.f4) (c := b_lko) Proofs.Tryd.func4 (by kernel_rfl) (by kernel_rfl) (by kernel_rfl) (by rw [hW]; kernel_rfl) (by rw [hW]; exact hl) hno k hk ?_
  rw [hW, show Proofs.Tryd.f4.results.toList = [.tmp 6] by kernel_rfl]
  exact hv
abbrev F_lkc : Nat := 5
noncomputable def b_lkc : Code := Proofs.Tryd.f5.body.getD .skip
abbrev l_lkc_0 : List Nat := [1, 1, 1, 1, 1, 0, 1, 0]
abbrev l_lkc_1 : List Nat := [1, 1, 1, 1, 1, 1, 1, 0, 1, 0]
abbrev l_lkc_2 : List Nat := [1, 1, 1, 1, 1, 1, 1, 0, 1, 0, 0, 1, 0, 0, 1, 1, 1, 0]
abbrev l_lkc_3 : List Nat := [1, 1, 1, 1, 1, 1, 1, 1, 1, 0, 1, 0]
theorem in_lkc {W : Way} (hW : W.nt = 120) {args : List AV} {H : List (Nat × Blk)} {r : AV} {H' : List (Nat × Blk)} (k : Nat) (hl : args.length ≤ 120) (hno : noTups args = true) (hk : ∀ id, look H id ≠ none → id < k)
    (hv : ∀ D, Holds C P 120 D k (FunPost C 120 k [.tmp 4] r H') (vc C W b_lkc [] (start args H) lf)) : Fun C P F_lkc args H r H' := by
  refine fun_of (W := W) ctx mixed (fn := Proofs.Tryd.f5) (c := b_lkc) Proofs.Tryd.func5 (by kernel_rfl) (by kernel_rfl) (by kernel_rfl) (by rw [hW]; kernel_rfl) (by rw [hW]; exact hl) hno k hk ?_
  rw [hW, show Proofs.Tryd.f5.results.toList = [.tmp 4] by kernel_rfl]
  exact hv
abbrev F_lku : Nat := 6
noncomputable def b_lku : Code := Proofs.Tryd.f6.body.getD .skip
abbrev l_lku_0 : List Nat := [1, 1, 1, 1, 1, 0, 1, 0]
abbrev l_lku_1 : List Nat := [1, 1, 1, 1, 1, 1, 1, 0, 1, 0]
theorem in_lku {W : Way} (hW : W.nt = 110) {args : List AV} {H : List (Nat × Blk)} {r : AV} {H' : List (Nat × Blk)} (k : Nat) (hl : args.length ≤ 110) (hno : noTups args = true) (hk : ∀ id, look H id ≠ none → id < k)
    (hv : ∀ D, Holds C P 110 D k (FunPost C 110 k [.tmp 6] r H') (vc C W b_lku [] (start args H) lf)) : Fun C P F_lku args H r H' := by
  refine fun_of (W := W) ctx mixed (fn := Proofs.Tryd.f6) (c := b_lku) Proofs.Tryd.func6 (by kernel_rfl) (by kernel_rfl) (by kernel_rfl) (by rw [hW]; kernel_rfl) (by rw [hW]; exact hl) hno k hk ?_
  rw [hW, show Proofs.Tryd.f6.results.toList = [.tmp 6] by kernel_rfl]
  exact hv
abbrev F_lkf : Nat := 7
noncomputable def b_lkf : Code := Proofs.Tryd.f7.body.getD .skip
abbrev l_lkf_0 : List Nat := [1, 1, 1, 1, 0, 1, 0]
theorem in_lkf {W : Way} (hW : W.nt = 37) {args : List AV} {H : List (Nat × Blk)} {r : AV} {H' : List (Nat × Blk)} (k : Nat) (hl : args.length ≤ 37) (hno : noTups args = true) (hk : ∀ id, look H id ≠ none → id < k)
    (hv : ∀ D, Holds C P 37 D k (FunPost C 37 k [.tmp 4] r H') (vc C W b_lkf [] (start args H) lf)) : Fun C P F_lkf args H r H' := by
  refine fun_of (W := W) ctx mixed (fn := Proofs.Tryd.f7) (c := b_lkf) Proofs.Tryd.func7 (by kernel_rfl) (by kernel_rfl) (by kernel_rfl) (by rw [hW]; kernel_rfl) (by rw [hW]; exact hl) hno k hk ?_
  rw [hW, show Proofs.Tryd.f7.results.toList = [.tmp 4] by kernel_rfl]
  exact hv
abbrev F_lkm : Nat := 8
noncomputable def b_lkm : Code := Proofs.Tryd.f8.body.getD .skip
abbrev l_lkm_0 : List Nat := [1, 1, 1, 1, 0, 1, 0]
abbrev l_lkm_1 : List Nat := [1, 1, 1, 1, 1, 0, 1, 0]
theorem in_lkm {W : Way} (hW : W.nt = 136) {args : List AV} {H : List (Nat × Blk)} {r : AV} {H' : List (Nat × Blk)} (k : Nat) (hl : args.length ≤ 136) (hno : noTups args = true) (hk : ∀ id, look H id ≠ none → id < k)
    (hv : ∀ D, Holds C P 136 D k (FunPost C 136 k [.tmp 6] r H') (vc C W b_lkm [] (start args H) lf)) : Fun C P F_lkm args H r H' := by
  refine fun_of (W := W) ctx mixed (fn := Proofs.Tryd.f8) (c := b_lkm) Proofs.Tryd.func8 (by kernel_rfl) (by kernel_rfl) (by kernel_rfl) (by rw [hW]; kernel_rfl) (by rw [hW]; exact hl) hno k hk ?_
  rw [hW, show Proofs.Tryd.f8.results.toList = [.tmp 6] by kernel_rfl]
  exact hv
abbrev F_lkp : Nat := 9
noncomputable def b_lkp : Code := Proofs.Tryd.f9.body.getD .skip
theorem in_lkp {W : Way} (hW : W.nt = 76) {args : List AV} {H : List (Nat × Blk)} {r : AV} {H' : List (Nat × Blk)} (k : Nat) (hl : args.length ≤ 76) (hno : noTups args = true) (hk : ∀ id, look H id ≠ none → id < k)
    (hv : ∀ D, Holds C P 76 D k (FunPost C 76 k [.tmp 4] r H') (vc C W b_lkp [] (start args H) lf)) : Fun C P F_lkp args H r H' := by
  refine fun_of (W := W) ctx mixed (fn := Proofs.Tryd.f9) (c := b_lkp) Proofs.Tryd.func9 (by kernel_rfl) (by kernel_rfl) (by kernel_rfl) (by rw [hW]; kernel_rfl) (by rw [hW]; exact hl) hno k hk ?_
  rw [hW, show Proofs.Tryd.f9.results.toList = [.tmp 4] by kernel_rfl]
  exact hv
abbrev F_lkb : Nat := 10
noncomputable def b_lkb : Code := Proofs.Tryd.f10.body.getD .skip
theorem in_lkb {W : Way} (hW : W.nt = 100) {args : List AV} {H : List (Nat × Blk)} {r : AV} {H' : List (Nat × Blk)} (k : Nat) (hl : args.length ≤ 100) (hno : noTups args = true) (hk : ∀ id, look H id ≠ none → id < k)
    (hv : ∀ D, Holds C P 100 D k (FunPost C 100 k [.tmp 6] r H') (vc C W b_lkb [] (start args H) lf)) : Fun C P F_lkb args H r H' := by
  refine fun_of (W := W) ctx mixed (fn := Proofs.Tryd.f10) (c := b_lkb) Proofs.Tryd.func10 (by kernel_rfl) (by kernel_rfl) (by kernel_rfl) (by rw [hW]; kernel_rfl) (by rw [hW]; exact hl) hno k hk ?_
  rw [hW, show Proofs.Tryd.f10.results.toList = [.tmp 6] by kernel_rfl]
  exact hv
abbrev F_sanity : Nat := 11
noncomputable def b_sanity : Code := Proofs.Tryd.f11.body.getD .skip
abbrev l_sanity_0 : List Nat := [1, 1, 1, 1, 1, 0, 1, 0]
theorem in_sanity {W : Way} (hW : W.nt = 103) {args : List AV} {H : List (Nat × Blk)} {r : AV} {H' : List (Nat × Blk)} (k : Nat) (hl : args.length ≤ 103) (hno : noTups args = true) (hk : ∀ id, look H id ≠ none → id < k)
    (hv : ∀ D, Holds C P 103 D k (FunPost C 103 k [.tmp 0] r H') (vc C W b_sanity [] (start args H) lf)) : Fun C P F_sanity args H r H' := by
  refine fun_of (W := W) ctx mixed (fn := Proofs.Tryd.f11) (c := b_sanity) Proofs.Tryd.func11 (by kernel_rfl) (by kernel_rfl) (by kernel_rfl) (by rw [hW]; kernel_rfl) (by rw [hW]; exact hl) hno k hk ?_
  rw [hW, show Proofs.Tryd.f11.results.toList = [.tmp 0] by kernel_rfl]
  exact hv
abbrev F_made : Nat := 12
noncomputable def b_made : Code := Proofs.Tryd.f12.body.getD .skip
abbrev l_made_0 : List Nat := [1, 1, 0, 1, 0]
theorem in_made {W : Way} (hW : W.nt = 30) {args : List AV} {H : List (Nat × Blk)} {r : AV} {H' : List (Nat × Blk)} (k : Nat) (hl : args.length ≤ 30) (hno : noTups args = true) (hk : ∀ id, look H id ≠ none → id < k)
    (hv : ∀ D, Holds C P 30 D k (FunPost C 30 k [.cell 4 28] r H') (vc C W b_made [] (start args H) lf)) : Fun C P F_made args H r H' := by
  refine fun_of (W := W) ctx mixed (fn := Proofs.Tryd.f12) (c := b_made) Proofs.Tryd.func12 (by kernel_rfl) (by kernel_rfl) (by kernel_rfl) (by rw [hW]; kernel_rfl) (by rw [hW]; exact hl) hno k hk ?_
  rw [hW, show Proofs.Tryd.f12.results.toList = [.cell 4 28] by kernel_rfl]
  exact hv
abbrev F_destroy : Nat := 13
noncomputable def b_destroy : Code := Proofs.Tryd.f13.body.getD .skip
theorem in_destroy {W : Way} (hW : W.nt = 58) {args : List AV} {H : List (Nat × Blk)} {r : AV} {H' : List (Nat × Blk)} (k : Nat) (hl : args.length ≤ 58) (hno : noTups args = true) (hk : ∀ id, look H id ≠ none → id < k)
    (hv : ∀ D, Holds C P 58 D k (FunPost C 58 k [.cell 4 28] r H') (vc C W b_destroy [] (start args H) lf)) : Fun C P F_destroy args H r H' := by
  refine fun_of (W := W) ctx mixed (fn := Proofs.Tryd.f13) (c := b_destroy) Proofs.Tryd.func13 (by kernel_rfl) (by kernel_rfl) (by kernel_rfl) (by rw [hW]; kernel_rfl) (by rw [hW]; exact hl) hno k hk ?_
  rw [hW, show Proofs.Tryd.f13.results.toList = [.cell 4 28] by kernel_rfl]
  exact hv
theorem inR_destroy {W : Way} (hW : W.nt = 58) {args : List AV} {H : List (Nat × Blk)} {r : AV} {H' : List (Nat × Blk)} (k : Nat) (hl : args.length ≤ 58) (hno : noTups args = true) (hk : ∀ id, look H id ≠ none → id < k)
    (hv : ∀ n, Holds C P 58 { base := n } k (FunPost C 58 k [.cell 4 28] r H') (vc C W b_destroy [] (start args H) lf)) : Fun C P F_destroy args H r H' := by
  refine fun_ofR (W := W) ctx mixed (fn := Proofs.Tryd.f13) (c := b_destroy) Proofs.Tryd.func13 (by kernel_rfl) (by kernel_rfl) (by kernel_rfl) (by rw [hW]; kernel_rfl) (by rw [hW]; exact hl) hno k hk ?_
  rw [hW, show Proofs.Tryd.f13.results.toList = [.cell 4 28] by kernel_rfl]
  exact hv
noncomputable abbrev asg_destroy_0 : Code := asgAt b_destroy [1, 1, 1, 1, 0, 1, 0]
noncomputable abbrev rbd_destroy_0 : Code := rbodyAt b_destroy [1, 1, 1, 1, 0, 1, 0]
theorem st_destroy_0 : stmtAt b_destroy [1, 1, 1, 1, 0, 1, 0] = .rangeFunc (.tmp 26) #[27, 28] asg_destroy_0 rbd_destroy_0 := by kernel_rfl
theorem oka_destroy_0 : codeOK asg_destroy_0 = true := by kernel_rfl
theorem okr_destroy_0 : codeOK rbd_destroy_0 = true := by kernel_rfl
abbrev F_rvalid : Nat := 14
noncomputable def b_rvalid : Code := Proofs.Tryd.f14.body.getD .skip
abbrev l_rvalid_0 : List Nat := [1, 1, 0, 1, 0]
theorem in_rvalid {W : Way} (hW : W.nt = 56) {args : List AV} {H : List (Nat × Blk)} {r : AV} {H' : List (Nat × Blk)} (k : Nat) (hl : args.length ≤ 56) (hno : noTups args = true) (hk : ∀ id, look H id ≠ none → id < k)
    (hv : ∀ D, Holds C P 56 D k (FunPost C 56 k [.tmp 2] r H') (vc C W b_rvalid [] (start args H) lf)) : Fun C P F_rvalid args H r H' := by
  refine fun_of (W := W) ctx mixed (fn := Proofs.Tryd.f14) (c := b_rvalid) Proofs.Tryd.func14 (by kernel_rfl) (by kernel_rfl) (by kernel_rfl) (by rw [hW]; kernel_rfl) (by rw [hW]; exact hl) hno k hk ?_
  rw [hW, show Proofs.Tryd.f14.results.toList = [.tmp 2] by kernel_rfl]
  exact hv
abbrev F_got : Nat := 15
noncomputable def b_got : Code := Proofs.Tryd.f15.body.getD .skip
theorem in_got {W : Way} (hW : W.nt = 16) {args : List AV} {H : List (Nat × Blk)} {r : AV} {H' : List (Nat × Blk)} (k : Nat) (hl : args.length ≤ 16) (hno : noTups args = true) (hk : ∀ id, look H id ≠ none → id < k)
    (hv : ∀ D, Holds C P 16 D k (FunPost C 16 k [.cell 4 36] r H') (vc C W b_got [] (start args H) lf)) : Fun C P F_got args H r H' := by
  refine fun_of (W := W) ctx mixed (fn := Proofs.Tryd.f15) (c := b_got) Proofs.Tryd.func15 (by kernel_rfl) (by kernel_rfl) (by kernel_rfl) (by rw [hW]; kernel_rfl) (by rw [hW]; exact hl) hno k hk ?_
  rw [hW, show Proofs.Tryd.f15.results.toList = [.cell 4 36] by kernel_rfl]
  exact hv
abbrev F_known : Nat := 16
noncomputable def b_known : Code := Proofs.Tryd.f16.body.getD .skip
theorem in_known {W : Way} (hW : W.nt = 8) {args : List AV} {H : List (Nat × Blk)} {r : AV} {H' : List (Nat × Blk)} (k : Nat) (hl : args.length ≤ 8) (hno : noTups args = true) (hk : ∀ id, look H id ≠ none → id < k)
    (hv : ∀ D, Holds C P 8 D k (FunPost C 8 k [.tmp 4] r H') (vc C W b_known [] (start args H) lf)) : Fun C P F_known args H r H' := by
  refine fun_of (W := W) ctx mixed (fn := Proofs.Tryd.f16) (c := b_known) Proofs.Tryd.func16 (by kernel_rfl) (by kernel_rfl) (by kernel_rfl) (by rw [hW]; kernel_rfl) (by rw [hW]; exact hl) hno k hk ?_
  rw [hW, show Proofs.Tryd.f16.results.toList = [.tmp 4] by kernel_rfl]
  exact hv
abbrev F_rnew : Nat := 17
noncomputable def b_rnew : Code := Proofs.Tryd.f17.body.getD .skip
theorem in_rnew {W : Way} (hW : W.nt = 7) {args : List AV} {H : List (Nat × Blk)} {r : AV} {H' : List (Nat × Blk)} (k : Nat) (hl : args.length ≤ 7) (hno : noTups args = true) (hk : ∀ id, look H id ≠ none → id < k)
    (hv : ∀ D, Holds C P 7 D k (FunPost C 7 k [.cell 2 28] r H') (vc C W b_rnew [] (start args H) lf)) : Fun C P F_rnew args H r H' := by
  refine fun_of (W := W) ctx mixed (fn := Proofs.Tryd.f17) (c := b_rnew) Proofs.Tryd.func17 (by kernel_rfl) (by kernel_rfl) (by kernel_rfl) (by rw [hW]; kernel_rfl) (by rw [hW]; exact hl) hno k hk ?_
  rw [hW, show Proofs.Tryd.f17.results.toList = [.cell 2 28] by kernel_rfl]
  exact hv
abbrev F_rsum : Nat := 18
noncomputable def b_rsum : Code := Proofs.Tryd.f18.body.getD .skip
abbrev l_rsum_0 : List Nat := [1, 1, 1, 0, 0]
abbrev l_rsum_1 : List Nat := [1, 1, 1, 1, 1, 1, 1, 0, 1, 0]
abbrev l_rsum_2 : List Nat := [1, 1, 1, 1, 1, 1, 1, 0, 1, 0, 0, 1, 0, 0, 0, 1, 0]
abbrev l_rsum_3 : List Nat := [1, 1, 1, 1, 1, 1, 1, 0, 1, 0, 0, 1, 0, 0, 0, 1, 0, 0, 1, 0, 0, 1, 0, 1, 0]
abbrev l_rsum_4 : List Nat := [1, 1, 1, 1, 1, 1, 1, 0, 1, 0, 0, 1, 0, 0, 1, 1, 0]
abbrev l_rsum_5 : List Nat := [1, 1, 1, 1, 1, 1, 1, 1, 1, 0, 1, 0]
theorem in_rsum {W : Way} (hW : W.nt = 105) {args : List AV} {H : List (Nat × Blk)} {r : AV} {H' : List (Nat × Blk)} (k : Nat) (hl : args.length ≤ 105) (hno : noTups args = true) (hk : ∀ id, look H id ≠ none → id < k)
    (hv : ∀ D, Holds C P 105 D k (FunPost C 105 k [.cell 2 33] r H') (vc C W b_rsum [] (start args H) lf)) : Fun C P F_rsum args H r H' := by
  refine fun_of (W := W) ctx mixed (fn := Proofs.Tryd.f18) (c := b_rsum) Proofs.Tryd.func18 (by kernel_rfl) (by kernel_rfl) (by kernel_rfl) (by rw [hW]; kernel_rfl) (by rw [hW]; exact hl) hno k hk ?_
  rw [hW, show Proofs.Tryd.f18.results.toList = [.cell 2 33] by kernel_rfl]
  exact hv
abbrev F_rsame : Nat := 19
noncomputable def b_rsame : Code := Proofs.Tryd.f19.body.getD .skip
abbrev l_rsame_0 : List Nat := [1, 1, 0, 1, 0]
theorem in_rsame {W : Way} (hW : W.nt = 31) {args : List AV} {H : List (Nat × Blk)} {r : AV} {H' : List (Nat × Blk)} (k : Nat) (hl : args.length ≤ 31) (hno : noTups args = true) (hk : ∀ id, look H id ≠ none → id < k)
    (hv : ∀ D, Holds C P 31 D k (FunPost C 31 k [.tmp 4] r H') (vc C W b_rsame [] (start args H) lf)) : Fun C P F_rsame args H r H' := by
  refine fun_of (W := W) ctx mixed (fn := Proofs.Tryd.f19) (c := b_rsame) Proofs.Tryd.func19 (by kernel_rfl) (by kernel_rfl) (by kernel_rfl) (by rw [hW]; kernel_rfl) (by rw [hW]; exact hl) hno k hk ?_
  rw [hW, show Proofs.Tryd.f19.results.toList = [.tmp 4] by kernel_rfl]
  exact hv
abbrev F_kleft : Nat := 20
noncomputable def b_kleft : Code := Proofs.Tryd.f20.body.getD .skip
abbrev l_kleft_0 : List Nat := [1, 1, 0, 1, 0]
theorem in_kleft {W : Way} (hW : W.nt = 20) {args : List AV} {H : List (Nat × Blk)} {r : AV} {H' : List (Nat × Blk)} (k : Nat) (hl : args.length ≤ 20) (hno : noTups args = true) (hk : ∀ id, look H id ≠ none → id < k)
    (hv : ∀ D, Holds C P 20 D k (FunPost C 20 k [.tmp 2] r H') (vc C W b_kleft [] (start args H) lf)) : Fun C P F_kleft args H r H' := by
  refine fun_of (W := W) ctx mixed (fn := Proofs.Tryd.f20) (c := b_kleft) Proofs.Tryd.func20 (by kernel_rfl) (by kernel_rfl) (by kernel_rfl) (by rw [hW]; kernel_rfl) (by rw [hW]; exact hl) hno k hk ?_
  rw [hW, show Proofs.Tryd.f20.results.toList = [.tmp 2] by kernel_rfl]
  exact hv
abbrev F_rof : Nat := 21
noncomputable def b_rof : Code := Proofs.Tryd.f21.body.getD .skip
theorem in_rof {W : Way} (hW : W.nt = 9) {args : List AV} {H : List (Nat × Blk)} {r : AV} {H' : List (Nat × Blk)} (k : Nat) (hl : args.length ≤ 9) (hno : noTups args = true) (hk : ∀ id, look H id ≠ none → id < k)
    (hv : ∀ D, Holds C P 9 D k (FunPost C 9 k [.cell 4 33] r H') (vc C W b_rof [] (start args H) lf)) : Fun C P F_rof args H r H' := by
  refine fun_of (W := W) ctx mixed (fn := Proofs.Tryd.f21) (c := b_rof) Proofs.Tryd.func21 (by kernel_rfl) (by kernel_rfl) (by kernel_rfl) (by rw [hW]; kernel_rfl) (by rw [hW]; exact hl) hno k hk ?_
  rw [hW, show Proofs.Tryd.f21.results.toList = [.cell 4 33] by kernel_rfl]
  exact hv
abbrev F_new : Nat := 22
noncomputable def b_new : Code := Proofs.Tryd.f22.body.getD .skip
theorem in_new {W : Way} (hW : W.nt = 7) {args : List AV} {H : List (Nat × Blk)} {r : AV} {H' : List (Nat × Blk)} (k : Nat) (hl : args.length ≤ 7) (hno : noTups args = true) (hk : ∀ id, look H id ≠ none → id < k)
    (hv : ∀ D, Holds C P 7 D k (FunPost C 7 k [.cell 2 28] r H') (vc C W b_new [] (start args H) lf)) : Fun C P F_new args H r H' := by
  refine fun_of (W := W) ctx mixed (fn := Proofs.Tryd.f22) (c := b_new) Proofs.Tryd.func22 (by kernel_rfl) (by kernel_rfl) (by kernel_rfl) (by rw [hW]; kernel_rfl) (by rw [hW]; exact hl) hno k hk ?_
  rw [hW, show Proofs.Tryd.f22.results.toList = [.cell 2 28] by kernel_rfl]
  exact hv
abbrev F_rkey : Nat := 23
noncomputable def b_rkey : Code := Proofs.Tryd.f23.body.getD .skip
abbrev l_rkey_0 : List Nat := [1, 1, 1, 1, 1, 0, 0]
theorem in_rkey {W : Way} (hW : W.nt = 36) {args : List AV} {H : List (Nat × Blk)} {r : AV} {H' : List (Nat × Blk)} (k : Nat) (hl : args.length ≤ 36) (hno : noTups args = true) (hk : ∀ id, look H id ≠ none → id < k)
    (hv : ∀ D, Holds C P 36 D k (FunPost C 36 k [.cell 4 36] r H') (vc C W b_rkey [] (start args H) lf)) : Fun C P F_rkey args H r H' := by
  refine fun_of (W := W) ctx mixed (fn := Proofs.Tryd.f23) (c := b_rkey) Proofs.Tryd.func23 (by kernel_rfl) (by kernel_rfl) (by kernel_rfl) (by rw [hW]; kernel_rfl) (by rw [hW]; exact hl) hno k hk ?_
  rw [hW, show Proofs.Tryd.f23.results.toList = [.cell 4 36] by kernel_rfl]
  exact hv
abbrev F_rdestroy : Nat := 24
noncomputable def b_rdestroy : Code := Proofs.Tryd.f24.body.getD .skip
abbrev l_rdestroy_0 : List Nat := [1, 1, 1, 1, 1, 1, 0, 0]
theorem in_rdestroy {W : Way} (hW : W.nt = 65) {args : List AV} {H : List (Nat × Blk)} {r : AV} {H' : List (Nat × Blk)} (k : Nat) (hl : args.length ≤ 65) (hno : noTups args = true) (hk : ∀ id, look H id ≠ none → id < k)
    (hv : ∀ D, Holds C P 65 D k (FunPost C 65 k [.cell 4 28] r H') (vc C W b_rdestroy [] (start args H) lf)) : Fun C P F_rdestroy args H r H' := by
  refine fun_of (W := W) ctx mixed (fn := Proofs.Tryd.f24) (c := b_rdestroy) Proofs.Tryd.func24 (by kernel_rfl) (by kernel_rfl) (by kernel_rfl) (by rw [hW]; kernel_rfl) (by rw [hW]; exact hl) hno k hk ?_
  rw [hW, show Proofs.Tryd.f24.results.toList = [.cell 4 28] by kernel_rfl]
  exact hv
abbrev F_rknown : Nat := 25
noncomputable def b_rknown : Code := Proofs.Tryd.f25.body.getD .skip
abbrev l_rknown_0 : List Nat := [1, 0, 1, 0]
theorem in_rknown {W : Way} (hW : W.nt = 19) {args : List AV} {H : List (Nat × Blk)} {r : AV} {H' : List (Nat × Blk)} (k : Nat) (hl : args.length ≤ 19) (hno : noTups args = true) (hk : ∀ id, look H id ≠ none → id < k)
    (hv : ∀ D, Holds C P 19 D k (FunPost C 19 k [.tmp 4] r H') (vc C W b_rknown [] (start args H) lf)) : Fun C P F_rknown args H r H' := by
  refine fun_of (W := W) ctx mixed (fn := Proofs.Tryd.f25) (c := b_rknown) Proofs.Tryd.func25 (by kernel_rfl) (by kernel_rfl) (by kernel_rfl) (by rw [hW]; kernel_rfl) (by rw [hW]; exact hl) hno k hk ?_
  rw [hW, show Proofs.Tryd.f25.results.toList = [.tmp 4] by kernel_rfl]
  exact hv
abbrev F_rkleft : Nat := 26
noncomputable def b_rkleft : Code := Proofs.Tryd.f26.body.getD .skip
abbrev l_rkleft_0 : List Nat := [1, 1, 0, 1, 0]
theorem in_rkleft {W : Way} (hW : W.nt = 22) {args : List AV} {H : List (Nat × Blk)} {r : AV} {H' : List (Nat × Blk)} (k : Nat) (hl : args.length ≤ 22) (hno : noTups args = true) (hk : ∀ id, look H id ≠ none → id < k)
    (hv : ∀ D, Holds C P 22 D k (FunPost C 22 k [.tmp 2] r H') (vc C W b_rkleft [] (start args H) lf)) : Fun C P F_rkleft args H r H' := by
  refine fun_of (W := W) ctx mixed (fn := Proofs.Tryd.f26) (c := b_rkleft) Proofs.Tryd.func26 (by kernel_rfl) (by kernel_rfl) (by kernel_rfl) (by rw [hW]; kernel_rfl) (by rw [hW]; exact hl) hno k hk ?_
  rw [hW, show Proofs.Tryd.f26.results.toList = [.tmp 2] by kernel_rfl]
  exact hv
abbrev F_ints : Nat := 27
noncomputable def b_ints : Code := Proofs.Tryd.f27.body.getD .skip
abbrev l_ints_0 : List Nat := [1, 1, 0, 1, 0]
theorem in_ints {W : Way} (hW : W.nt = 26) {args : List AV} {H : List (Nat × Blk)} {r : AV} {H' : List (Nat × Blk)} (k : Nat) (hl : args.length ≤ 26) (hno : noTups args = true) (hk : ∀ id, look H id ≠ none → id < k)
    (hv : ∀ D, Holds C P 26 D k (FunPost C 26 k [.tmp 4] r H') (vc C W b_ints [] (start args H) lf)) : Fun C P F_ints args H r H' := by
  refine fun_of (W := W) ctx mixed (fn := Proofs.Tryd.f27) (c := b_ints) Proofs.Tryd.func27 (by kernel_rfl) (by kernel_rfl) (by kernel_rfl) (by rw [hW]; kernel_rfl) (by rw [hW]; exact hl) hno k hk ?_
  rw [hW, show Proofs.Tryd.f27.results.toList = [.tmp 4] by kernel_rfl]
  exact hv
abbrev F_lost : Nat := 28
noncomputable def b_lost : Code := Proofs.Tryd.f28.body.getD .skip
abbrev l_lost_0 : List Nat := [1, 1, 0, 1, 0]
theorem in_lost {W : Way} (hW : W.nt = 30) {args : List AV} {H : List (Nat × Blk)} {r : AV} {H' : List (Nat × Blk)} (k : Nat) (hl : args.length ≤ 30) (hno : noTups args = true) (hk : ∀ id, look H id ≠ none → id < k)
    (hv : ∀ D, Holds C P 30 D k (FunPost C 30 k [.tmp 4] r H') (vc C W b_lost [] (start args H) lf)) : Fun C P F_lost args H r H' := by
  refine fun_of (W := W) ctx mixed (fn := Proofs.Tryd.f28) (c := b_lost) Proofs.Tryd.func28 (by kernel_rfl) (by kernel_rfl) (by kernel_rfl) (by rw [hW]; kernel_rfl) (by rw [hW]; exact hl) hno k hk ?_
  rw [hW, show Proofs.Tryd.f28.results.toList = [.tmp 4] by kernel_rfl]
  exact hv
abbrev F_rlost : Nat := 29
noncomputable def b_rlost : Code := Proofs.Tryd.f29.body.getD .skip
abbrev l_rlost_0 : List Nat := [1, 1, 0, 1, 0]
theorem in_rlost {W : Way} (hW : W.nt = 29) {args : List AV} {H : List (Nat × Blk)} {r : AV} {H' : List (Nat × Blk)} (k : Nat) (hl : args.length ≤ 29) (hno : noTups args = true) (hk : ∀ id, look H id ≠ none → id < k)
    (hv : ∀ D, Holds C P 29 D k (FunPost C 29 k [.tmp 4] r H') (vc C W b_rlost [] (start args H) lf)) : Fun C P F_rlost args H r H' := by
  refine fun_of (W := W) ctx mixed (fn := Proofs.Tryd.f29) (c := b_rlost) Proofs.Tryd.func29 (by kernel_rfl) (by kernel_rfl) (by kernel_rfl) (by rw [hW]; kernel_rfl) (by rw [hW]; exact hl) hno k hk ?_
  rw [hW, show Proofs.Tryd.f29.results.toList = [.tmp 4] by kernel_rfl]
  exact hv
abbrev F_kbytes : Nat := 30
noncomputable def b_kbytes : Code := Proofs.Tryd.f30.body.getD .skip
abbrev l_kbytes_0 : List Nat := [1, 1, 0, 1, 0]
theorem in_kbytes {W : Way} (hW : W.nt = 32) {args : List AV} {H : List (Nat × Blk)} {r : AV} {H' : List (Nat × Blk)} (k : Nat) (hl : args.length ≤ 32) (hno : noTups args = true) (hk : ∀ id, look H id ≠ none → id < k)
    (hv : ∀ D, Holds C P 32 D k (FunPost C 32 k [.tmp 2] r H') (vc C W b_kbytes [] (start args H) lf)) : Fun C P F_kbytes args H r H' := by
  refine fun_of (W := W) ctx mixed (fn := Proofs.Tryd.f30) (c := b_kbytes) Proofs.Tryd.func30 (by kernel_rfl) (by kernel_rfl) (by kernel_rfl) (by rw [hW]; kernel_rfl) (by rw [hW]; exact hl) hno k hk ?_
  rw [hW, show Proofs.Tryd.f30.results.toList = [.tmp 2] by kernel_rfl]
  exact hv
abbrev F_rkbytes : Nat := 31
noncomputable def b_rkbytes : Code := Proofs.Tryd.f31.body.getD .skip
abbrev l_rkbytes_0 : List Nat := [1, 1, 0, 1, 0]
theorem in_rkbytes {W : Way} (hW : W.nt = 37) {args : List AV} {H : List (Nat × Blk)} {r : AV} {H' : List (Nat × Blk)} (k : Nat) (hl : args.length ≤ 37) (hno : noTups args = true) (hk : ∀ id, look H id ≠ none → id < k)
    (hv : ∀ D, Holds C P 37 D k (FunPost C 37 k [.tmp 2] r H') (vc C W b_rkbytes [] (start args H) lf)) : Fun C P F_rkbytes args H r H' := by
  refine fun_of (W := W) ctx mixed (fn := Proofs.Tryd.f31) (c := b_rkbytes) Proofs.Tryd.func31 (by kernel_rfl) (by kernel_rfl) (by kernel_rfl) (by rw [hW]; kernel_rfl) (by rw [hW]; exact hl) hno k hk ?_
  rw [hW, show Proofs.Tryd.f31.results.toList = [.tmp 2] by kernel_rfl]
  exact hv
abbrev F_parse : Nat := 32
noncomputable def b_parse : Code := Proofs.Tryd.f32.body.getD .skip
theorem in_parse {W : Way} (hW : W.nt = 43) {args : List AV} {H : List (Nat × Blk)} {r : AV} {H' : List (Nat × Blk)} (k : Nat) (hl : args.length ≤ 43) (hno : noTups args = true) (hk : ∀ id, look H id ≠ none → id < k)
    (hv : ∀ D, Holds C P 43 D k (FunPost C 43 k [.cell 2 28, .tmp 3] r H') (vc C W b_parse [] (start args H) lf)) : Fun C P F_parse args H r H' := by
  refine fun_of (W := W) ctx mixed (fn := Proofs.Tryd.f32) (c := b_parse) Proofs.Tryd.func32 (by kernel_rfl) (by kernel_rfl) (by kernel_rfl) (by rw [hW]; kernel_rfl) (by rw [hW]; exact hl) hno k hk ?_
  rw [hW, show Proofs.Tryd.f32.results.toList = [.cell 2 28, .tmp 3] by kernel_rfl]
  exact hv
theorem inR_parse {W : Way} (hW : W.nt = 43) {args : List AV} {H : List (Nat × Blk)} {r : AV} {H' : List (Nat × Blk)} (k : Nat) (hl : args.length ≤ 43) (hno : noTups args = true) (hk : ∀ id, look H id ≠ none → id < k)
    (hv : ∀ n, Holds C P 43 { base := n } k (FunPost C 43 k [.cell 2 28, .tmp 3] r H') (vc C W b_parse [] (start args H) lf)) : Fun C P F_parse args H r H' := by
  refine fun_ofR (W := W) ctx mixed (fn := Proofs.Tryd.f32) (c := b_parse) Proofs.Tryd.func32 (by kernel_rfl) (by kernel_rfl) (by kernel_rfl) (by rw [hW]; kernel_rfl) (by rw [hW]; exact hl) hno k hk ?_
  rw [hW, show Proofs.Tryd.f32.results.toList = [.cell 2 28, .tmp 3] by kernel_rfl]
  exact hv
noncomputable abbrev asg_parse_0 : Code := asgAt b_parse [1, 1, 1, 0, 1, 0]
noncomputable abbrev rbd_parse_0 : Code := rbodyAt b_parse [1, 1, 1, 0, 1, 0]
theorem st_parse_0 : stmtAt b_parse [1, 1, 1, 0, 1, 0] = .rangeFunc (.tmp 12) #[13] asg_parse_0 rbd_parse_0 := by kernel_rfl
theorem oka_parse_0 : codeOK asg_parse_0 = true := by kernel_rfl
theorem okr_parse_0 : codeOK rbd_parse_0 = true := by kernel_rfl
abbrev F_rparse : Nat := 33
noncomputable def b_rparse : Code := Proofs.Tryd.f33.body.getD .skip
abbrev l_rparse_0 : List Nat := [1, 1, 1, 0, 1, 0]
abbrev l_rparse_1 : List Nat := [1, 1, 1, 0, 1, 0, 0, 1, 0, 0, 1, 0, 1, 0]
theorem in_rparse {W : Way} (hW : W.nt = 65) {args : List AV} {H : List (Nat × Blk)} {r : AV} {H' : List (Nat × Blk)} (k : Nat) (hl : args.length ≤ 65) (hno : noTups args = true) (hk : ∀ id, look H id ≠ none → id < k)
    (hv : ∀ D, Holds C P 65 D k (FunPost C 65 k [.cell 2 65] r H') (vc C W b_rparse [] (start args H) lf)) : Fun C P F_rparse args H r H' := by
  refine fun_of (W := W) ctx mixed (fn := Proofs.Tryd.f33) (c := b_rparse) Proofs.Tryd.func33 (by kernel_rfl) (by kernel_rfl) (by kernel_rfl) (by rw [hW]; kernel_rfl) (by rw [hW]; exact hl) hno k hk ?_
  rw [hW, show Proofs.Tryd.f33.results.toList = [.cell 2 65] by kernel_rfl]
  exact hv
abbrev F_valid : Nat := 34
noncomputable def b_valid : Code := Proofs.Tryd.f34.body.getD .skip
abbrev l_valid_0 : List Nat := [1, 1, 0, 1, 0]
theorem in_valid {W : Way} (hW : W.nt = 52) {args : List AV} {H : List (Nat × Blk)} {r : AV} {H' : List (Nat × Blk)} (k : Nat) (hl : args.length ≤ 52) (hno : noTups args = true) (hk : ∀ id, look H id ≠ none → id < k)
    (hv : ∀ D, Holds C P 52 D k (FunPost C 52 k [.tmp 2] r H') (vc C W b_valid [] (start args H) lf)) : Fun C P F_valid args H r H' := by
  refine fun_of (W := W) ctx mixed (fn := Proofs.Tryd.f34) (c := b_valid) Proofs.Tryd.func34 (by kernel_rfl) (by kernel_rfl) (by kernel_rfl) (by rw [hW]; kernel_rfl) (by rw [hW]; exact hl) hno k hk ?_
  rw [hW, show Proofs.Tryd.f34.results.toList = [.tmp 2] by kernel_rfl]
  exact hv
abbrev F_find : Nat := 35
noncomputable def b_find : Code := Proofs.Tryd.f35.body.getD .skip
theorem in_find {W : Way} (hW : W.nt = 18) {args : List AV} {H : List (Nat × Blk)} {r : AV} {H' : List (Nat × Blk)} (k : Nat) (hl : args.length ≤ 18) (hno : noTups args = true) (hk : ∀ id, look H id ≠ none → id < k)
    (hv : ∀ D, Holds C P 18 D k (FunPost C 18 k [.tmp 4, .tmp 5] r H') (vc C W b_find [] (start args H) lf)) : Fun C P F_find args H r H' := by
  refine fun_of (W := W) ctx mixed (fn := Proofs.Tryd.f35) (c := b_find) Proofs.Tryd.func35 (by kernel_rfl) (by kernel_rfl) (by kernel_rfl) (by rw [hW]; kernel_rfl) (by rw [hW]; exact hl) hno k hk ?_
  rw [hW, show Proofs.Tryd.f35.results.toList = [.tmp 4, .tmp 5] by kernel_rfl]
  exact hv
abbrev F_way : Nat := 36
noncomputable def b_way : Code := Proofs.Tryd.f36.body.getD .skip
theorem in_way {W : Way} (hW : W.nt = 6) {args : List AV} {H : List (Nat × Blk)} {r : AV} {H' : List (Nat × Blk)} (k : Nat) (hl : args.length ≤ 6) (hno : noTups args = true) (hk : ∀ id, look H id ≠ none → id < k)
    (hv : ∀ D, Holds C P 6 D k (FunPost C 6 k [.tmp 4] r H') (vc C W b_way [] (start args H) lf)) : Fun C P F_way args H r H' := by
  refine fun_of (W := W) ctx mixed (fn := Proofs.Tryd.f36) (c := b_way) Proofs.Tryd.func36 (by kernel_rfl) (by kernel_rfl) (by kernel_rfl) (by rw [hW]; kernel_rfl) (by rw [hW]; exact hl) hno k hk ?_
  rw [hW, show Proofs.Tryd.f36.results.toList = [.tmp 4] by kernel_rfl]
  exact hv
abbrev F_rev : Nat := 37
noncomputable def b_rev : Code := Proofs.Tryd.f37.body.getD .skip
abbrev l_rev_0 : List Nat := [1, 0]
theorem in_rev {W : Way} (hW : W.nt = 28) {args : List AV} {H : List (Nat × Blk)} {r : AV} {H' : List (Nat × Blk)} (k : Nat) (hl : args.length ≤ 28) (hno : noTups args = true) (hk : ∀ id, look H id ≠ none → id < k)
    (hv : ∀ D, Holds C P 28 D k (FunPost C 28 k [] r H') (vc C W b_rev [] (start args H) lf)) : Fun C P F_rev args H r H' := by
  refine fun_of (W := W) ctx mixed (fn := Proofs.Tryd.f37) (c := b_rev) Proofs.Tryd.func37 (by kernel_rfl) (by kernel_rfl) (by kernel_rfl) (by rw [hW]; kernel_rfl) (by rw [hW]; exact hl) hno k hk ?_
  rw [hW, show Proofs.Tryd.f37.results.toList = [] by kernel_rfl]
  exact hv
abbrev F_concat : Nat := 38
noncomputable def b_concat : Code := Proofs.Tryd.f38.body.getD .skip
abbrev l_concat_0 : List Nat := [1, 1, 0, 1, 0]
abbrev l_concat_1 : List Nat := [1, 1, 1, 1, 0, 1, 0]
theorem in_concat {W : Way} (hW : W.nt = 36) {args : List AV} {H : List (Nat × Blk)} {r : AV} {H' : List (Nat × Blk)} (k : Nat) (hl : args.length ≤ 36) (hno : noTups args = true) (hk : ∀ id, look H id ≠ none → id < k)
    (hv : ∀ D, Holds C P 36 D k (FunPost C 36 k [.tmp 2] r H') (vc C W b_concat [] (start args H) lf)) : Fun C P F_concat args H r H' := by
  refine fun_of (W := W) ctx mixed (fn := Proofs.Tryd.f38) (c := b_concat) Proofs.Tryd.func38 (by kernel_rfl) (by kernel_rfl) (by kernel_rfl) (by rw [hW]; kernel_rfl) (by rw [hW]; exact hl) hno k hk ?_
  rw [hW, show Proofs.Tryd.f38.results.toList = [.tmp 2] by kernel_rfl]
  exact hv
abbrev F_rsize : Nat := 39
noncomputable def b_rsize : Code := Proofs.Tryd.f39.body.getD .skip
theorem in_rsize {W : Way} (hW : W.nt = 5) {args : List AV} {H : List (Nat × Blk)} {r : AV} {H' : List (Nat × Blk)} (k : Nat) (hl : args.length ≤ 5) (hno : noTups args = true) (hk : ∀ id, look H id ≠ none → id < k)
    (hv : ∀ D, Holds C P 5 D k (FunPost C 5 k [.tmp 2] r H') (vc C W b_rsize [] (start args H) lf)) : Fun C P F_rsize args H r H' := by
  refine fun_of (W := W) ctx mixed (fn := Proofs.Tryd.f39) (c := b_rsize) Proofs.Tryd.func39 (by kernel_rfl) (by kernel_rfl) (by kernel_rfl) (by rw [hW]; kernel_rfl) (by rw [hW]; exact hl) hno k hk ?_
  rw [hW, show Proofs.Tryd.f39.results.toList = [.tmp 2] by kernel_rfl]
  exact hv
abbrev F_key : Nat := 40
noncomputable def b_key : Code := Proofs.Tryd.f40.body.getD .skip
theorem in_key {W : Way} (hW : W.nt = 45) {args : List AV} {H : List (Nat × Blk)} {r : AV} {H' : List (Nat × Blk)} (k : Nat) (hl : args.length ≤ 45) (hno : noTups args = true) (hk : ∀ id, look H id ≠ none → id < k)
    (hv : ∀ D, Holds C P 45 D k (FunPost C 45 k [.cell 4 33, .tmp 5] r H') (vc C W b_key [] (start args H) lf)) : Fun C P F_key args H r H' := by
  refine fun_of (W := W) ctx mixed (fn := Proofs.Tryd.f40) (c := b_key) Proofs.Tryd.func40 (by kernel_rfl) (by kernel_rfl) (by kernel_rfl) (by rw [hW]; kernel_rfl) (by rw [hW]; exact hl) hno k hk ?_
  rw [hW, show Proofs.Tryd.f40.results.toList = [.cell 4 33, .tmp 5] by kernel_rfl]
  exact hv
theorem inR_key {W : Way} (hW : W.nt = 45) {args : List AV} {H : List (Nat × Blk)} {r : AV} {H' : List (Nat × Blk)} (k : Nat) (hl : args.length ≤ 45) (hno : noTups args = true) (hk : ∀ id, look H id ≠ none → id < k)
    (hv : ∀ n, Holds C P 45 { base := n } k (FunPost C 45 k [.cell 4 33, .tmp 5] r H') (vc C W b_key [] (start args H) lf)) : Fun C P F_key args H r H' := by
  refine fun_ofR (W := W) ctx mixed (fn := Proofs.Tryd.f40) (c := b_key) Proofs.Tryd.func40 (by kernel_rfl) (by kernel_rfl) (by kernel_rfl) (by rw [hW]; kernel_rfl) (by rw [hW]; exact hl) hno k hk ?_
  rw [hW, show Proofs.Tryd.f40.results.toList = [.cell 4 33, .tmp 5] by kernel_rfl]
  exact hv
noncomputable abbrev asg_key_0 : Code := asgAt b_key [1, 1, 1, 1, 1, 0, 1, 0]
noncomputable abbrev rbd_key_0 : Code := rbodyAt b_key [1, 1, 1, 1, 1, 0, 1, 0]
theorem st_key_0 : stmtAt b_key [1, 1, 1, 1, 1, 0, 1, 0] = .rangeFunc (.tmp 39) #[40, 41] asg_key_0 rbd_key_0 := by kernel_rfl
theorem oka_key_0 : codeOK asg_key_0 = true := by kernel_rfl
theorem okr_key_0 : codeOK rbd_key_0 = true := by kernel_rfl
abbrev F_contF : Nat := 41
noncomputable def b_contF : Code := Proofs.Tryd.f41.body.getD .skip
theorem in_contF {W : Way} (hW : W.nt = 9) {args : List AV} {H : List (Nat × Blk)} {r : AV} {H' : List (Nat × Blk)} (k : Nat) (hl : args.length ≤ 9) (hno : noTups args = true) (hk : ∀ id, look H id ≠ none → id < k)
    (hv : ∀ D, Holds C P 9 D k (FunPost C 9 k [.tmp 4] r H') (vc C W b_contF [] (start args H) lf)) : Fun C P F_contF args H r H' := by
  refine fun_of (W := W) ctx mixed (fn := Proofs.Tryd.f41) (c := b_contF) Proofs.Tryd.func41 (by kernel_rfl) (by kernel_rfl) (by kernel_rfl) (by rw [hW]; kernel_rfl) (by rw [hW]; exact hl) hno k hk ?_
  rw [hW, show Proofs.Tryd.f41.results.toList = [.tmp 4] by kernel_rfl]
  exact hv
abbrev F_known1 : Nat := 42
noncomputable def b_known1 : Code := Proofs.Tryd.f42.body.getD .skip
theorem in_known1 {W : Way} (hW : W.nt = 13) {args : List AV} {H : List (Nat × Blk)} {r : AV} {H' : List (Nat × Blk)} (k : Nat) (hl : args.length ≤ 13) (hno : noTups args = true) (hk : ∀ id, look H id ≠ none → id < k)
    (hv : ∀ D, Holds C P 13 D k (FunPost C 13 k [.tmp 3] r H') (vc C W b_known1 [] (start args H) lf)) : Fun C P F_known1 args H r H' := by
  refine fun_of (W := W) ctx mixed (fn := Proofs.Tryd.f42) (c := b_known1) Proofs.Tryd.func42 (by kernel_rfl) (by kernel_rfl) (by kernel_rfl) (by rw [hW]; kernel_rfl) (by rw [hW]; exact hl) hno k hk ?_
  rw [hW, show Proofs.Tryd.f42.results.toList = [.tmp 3] by kernel_rfl]
  exact hv
abbrev F_rwords : Nat := 43
noncomputable def b_rwords : Code := Proofs.Tryd.f43.body.getD .skip
theorem in_rwords {W : Way} (hW : W.nt = 2) {args : List AV} {H : List (Nat × Blk)} {r : AV} {H' : List (Nat × Blk)} (k : Nat) (hl : args.length ≤ 2) (hno : noTups args = true) (hk : ∀ id, look H id ≠ none → id < k)
    (hv : ∀ D, Holds C P 2 D k (FunPost C 2 k [.cell 0 84] r H') (vc C W b_rwords [] (start args H) lf)) : Fun C P F_rwords args H r H' := by
  refine fun_of (W := W) ctx mixed (fn := Proofs.Tryd.f43) (c := b_rwords) Proofs.Tryd.func43 (by kernel_rfl) (by kernel_rfl) (by kernel_rfl) (by rw [hW]; kernel_rfl) (by rw [hW]; exact hl) hno k hk ?_
  rw [hW, show Proofs.Tryd.f43.results.toList = [.cell 0 84] by kernel_rfl]
  exact hv
abbrev F_rround : Nat := 44
noncomputable def b_rround : Code := Proofs.Tryd.f44.body.getD .skip
abbrev l_rround_0 : List Nat := [1, 1, 0, 1, 0]
abbrev l_rround_1 : List Nat := [1, 1, 1, 0, 1, 0]
abbrev l_rround_2 : List Nat := [1, 1, 1, 0, 1, 0, 0, 1, 0, 0, 1, 1, 0]
abbrev l_rround_3 : List Nat := [1, 1, 1, 1, 1, 1, 0, 1, 0]
abbrev l_rround_4 : List Nat := [1, 1, 1, 1, 1, 1, 1, 1, 0, 1, 0]
abbrev l_rround_5 : List Nat := [1, 1, 1, 1, 1, 1, 1, 1, 0, 1, 0, 0, 1, 0, 0, 1, 0]
abbrev l_rround_6 : List Nat := [1, 1, 1, 1, 1, 1, 1, 1, 1, 0, 1, 0]
abbrev l_rround_7 : List Nat := [1, 1, 1, 1, 1, 1, 1, 1, 1, 0, 1, 0, 0, 1, 0, 0, 1, 0]
theorem in_rround {W : Way} (hW : W.nt = 173) {args : List AV} {H : List (Nat × Blk)} {r : AV} {H' : List (Nat × Blk)} (k : Nat) (hl : args.length ≤ 173) (hno : noTups args = true) (hk : ∀ id, look H id ≠ none → id < k)
    (hv : ∀ D, Holds C P 173 D k (FunPost C 173 k [.cell 4 83] r H') (vc C W b_rround [] (start args H) lf)) : Fun C P F_rround args H r H' := by
  refine fun_of (W := W) ctx mixed (fn := Proofs.Tryd.f44) (c := b_rround) Proofs.Tryd.func44 (by kernel_rfl) (by kernel_rfl) (by kernel_rfl) (by rw [hW]; kernel_rfl) (by rw [hW]; exact hl) hno k hk ?_
  rw [hW, show Proofs.Tryd.f44.results.toList = [.cell 4 83] by kernel_rfl]
  exact hv
abbrev F_size : Nat := 45
noncomputable def b_size : Code := Proofs.Tryd.f45.body.getD .skip
theorem in_size {W : Way} (hW : W.nt = 5) {args : List AV} {H : List (Nat × Blk)} {r : AV} {H' : List (Nat × Blk)} (k : Nat) (hl : args.length ≤ 5) (hno : noTups args = true) (hk : ∀ id, look H id ≠ none → id < k)
    (hv : ∀ D, Holds C P 5 D k (FunPost C 5 k [.tmp 2] r H') (vc C W b_size [] (start args H) lf)) : Fun C P F_size args H r H' := by
  refine fun_of (W := W) ctx mixed (fn := Proofs.Tryd.f45) (c := b_size) Proofs.Tryd.func45 (by kernel_rfl) (by kernel_rfl) (by kernel_rfl) (by rw [hW]; kernel_rfl) (by rw [hW]; exact hl) hno k hk ?_
  rw [hW, show Proofs.Tryd.f45.results.toList = [.tmp 2] by kernel_rfl]
  exact hv
abbrev F_bytes : Nat := 46
noncomputable def b_bytes : Code := Proofs.Tryd.f46.body.getD .skip
abbrev l_bytes_0 : List Nat := [1, 1, 0, 1, 0]
theorem in_bytes {W : Way} (hW : W.nt = 30) {args : List AV} {H : List (Nat × Blk)} {r : AV} {H' : List (Nat × Blk)} (k : Nat) (hl : args.length ≤ 30) (hno : noTups args = true) (hk : ∀ id, look H id ≠ none → id < k)
    (hv : ∀ D, Holds C P 30 D k (FunPost C 30 k [.tmp 4] r H') (vc C W b_bytes [] (start args H) lf)) : Fun C P F_bytes args H r H' := by
  refine fun_of (W := W) ctx mixed (fn := Proofs.Tryd.f46) (c := b_bytes) Proofs.Tryd.func46 (by kernel_rfl) (by kernel_rfl) (by kernel_rfl) (by rw [hW]; kernel_rfl) (by rw [hW]; exact hl) hno k hk ?_
  rw [hW, show Proofs.Tryd.f46.results.toList = [.tmp 4] by kernel_rfl]
  exact hv
abbrev F_rfind : Nat := 47
noncomputable def b_rfind : Code := Proofs.Tryd.f47.body.getD .skip
abbrev l_rfind_0 : List Nat := [1, 0, 1, 0]
theorem in_rfind {W : Way} (hW : W.nt = 21) {args : List AV} {H : List (Nat × Blk)} {r : AV} {H' : List (Nat × Blk)} (k : Nat) (hl : args.length ≤ 21) (hno : noTups args = true) (hk : ∀ id, look H id ≠ none → id < k)
    (hv : ∀ D, Holds C P 21 D k (FunPost C 21 k [.tmp 4] r H') (vc C W b_rfind [] (start args H) lf)) : Fun C P F_rfind args H r H' := by
  refine fun_of (W := W) ctx mixed (fn := Proofs.Tryd.f47) (c := b_rfind) Proofs.Tryd.func47 (by kernel_rfl) (by kernel_rfl) (by kernel_rfl) (by rw [hW]; kernel_rfl) (by rw [hW]; exact hl) hno k hk ?_
  rw [hW, show Proofs.Tryd.f47.results.toList = [.tmp 4] by kernel_rfl]
  exact hv
abbrev F_follow : Nat := 48
noncomputable def b_follow : Code := Proofs.Tryd.f48.body.getD .skip
theorem in_follow {W : Way} (hW : W.nt = 21) {args : List AV} {H : List (Nat × Blk)} {r : AV} {H' : List (Nat × Blk)} (k : Nat) (hl : args.length ≤ 21) (hno : noTups args = true) (hk : ∀ id, look H id ≠ none → id < k)
    (hv : ∀ D, Holds C P 21 D k (FunPost C 21 k [.cell 4 49] r H') (vc C W b_follow [] (start args H) lf)) : Fun C P F_follow args H r H' := by
  refine fun_of (W := W) ctx mixed (fn := Proofs.Tryd.f48) (c := b_follow) Proofs.Tryd.func48 (by kernel_rfl) (by kernel_rfl) (by kernel_rfl) (by rw [hW]; kernel_rfl) (by rw [hW]; exact hl) hno k hk ?_
  rw [hW, show Proofs.Tryd.f48.results.toList = [.cell 4 49] by kernel_rfl]
  exact hv
abbrev F_side : Nat := 49
noncomputable def b_side : Code := Proofs.Tryd.f49.body.getD .skip
theorem in_side {W : Way} (hW : W.nt = 12) {args : List AV} {H : List (Nat × Blk)} {r : AV} {H' : List (Nat × Blk)} (k : Nat) (hl : args.length ≤ 12) (hno : noTups args = true) (hk : ∀ id, look H id ≠ none → id < k)
    (hv : ∀ D, Holds C P 12 D k (FunPost C 12 k [.tmp 4] r H') (vc C W b_side [] (start args H) lf)) : Fun C P F_side args H r H' := by
  refine fun_of (W := W) ctx mixed (fn := Proofs.Tryd.f49) (c := b_side) Proofs.Tryd.func49 (by kernel_rfl) (by kernel_rfl) (by kernel_rfl) (by rw [hW]; kernel_rfl) (by rw [hW]; exact hl) hno k hk ?_
  rw [hW, show Proofs.Tryd.f49.results.toList = [.tmp 4] by kernel_rfl]
  exact hv
abbrev F_chunk : Nat := 50
noncomputable def b_chunk : Code := Proofs.Tryd.f50.body.getD .skip
theorem in_chunk {W : Way} (hW : W.nt = 9) {args : List AV} {H : List (Nat × Blk)} {r : AV} {H' : List (Nat × Blk)} (k : Nat) (hl : args.length ≤ 9) (hno : noTups args = true) (hk : ∀ id, look H id ≠ none → id < k)
    (hv : ∀ D, Holds C P 9 D k (FunPost C 9 k [.tmp 4] r H') (vc C W b_chunk [] (start args H) lf)) : Fun C P F_chunk args H r H' := by
  refine fun_of (W := W) ctx mixed (fn := Proofs.Tryd.f50) (c := b_chunk) Proofs.Tryd.func50 (by kernel_rfl) (by kernel_rfl) (by kernel_rfl) (by rw [hW]; kernel_rfl) (by rw [hW]; exact hl) hno k hk ?_
  rw [hW, show Proofs.Tryd.f50.results.toList = [.tmp 4] by kernel_rfl]
  exact hv
abbrev F_bsS : Nat := 51
noncomputable def b_bsS : Code := Proofs.Tryd.f51.body.getD .skip
abbrev l_bsS_0 : List Nat := [1, 1, 1, 0, 0]
theorem in_bsS {W : Way} (hW : W.nt = 49) {args : List AV} {H : List (Nat × Blk)} {r : AV} {H' : List (Nat × Blk)} (k : Nat) (hl : args.length ≤ 49) (hno : noTups args = true) (hk : ∀ id, look H id ≠ none → id < k)
    (hv : ∀ D, Holds C P 49 D k (FunPost C 49 k [.tmp 6, .tmp 7] r H') (vc C W b_bsS [] (start args H) lf)) : Fun C P F_bsS args H r H' := by
  refine fun_of (W := W) ctx mixed (fn := Proofs.Tryd.f51) (c := b_bsS) Proofs.Tryd.func51 (by kernel_rfl) (by kernel_rfl) (by kernel_rfl) (by rw [hW]; kernel_rfl) (by rw [hW]; exact hl) hno k hk ?_
  rw [hW, show Proofs.Tryd.f51.results.toList = [.tmp 6, .tmp 7] by kernel_rfl]
  exact hv
abbrev F_find1 : Nat := 52
noncomputable def b_find1 : Code := Proofs.Tryd.f52.body.getD .skip
theorem in_find1 {W : Way} (hW : W.nt = 24) {args : List AV} {H : List (Nat × Blk)} {r : AV} {H' : List (Nat × Blk)} (k : Nat) (hl : args.length ≤ 24) (hno : noTups args = true) (hk : ∀ id, look H id ≠ none → id < k)
    (hv : ∀ D, Holds C P 24 D k (FunPost C 24 k [.tmp 4] r H') (vc C W b_find1 [] (start args H) lf)) : Fun C P F_find1 args H r H' := by
  refine fun_of (W := W) ctx mixed (fn := Proofs.Tryd.f52) (c := b_find1) Proofs.Tryd.func52 (by kernel_rfl) (by kernel_rfl) (by kernel_rfl) (by rw [hW]; kernel_rfl) (by rw [hW]; exact hl) hno k hk ?_
  rw [hW, show Proofs.Tryd.f52.results.toList = [.tmp 4] by kernel_rfl]
  exact hv
abbrev F_way1 : Nat := 53
noncomputable def b_way1 : Code := Proofs.Tryd.f53.body.getD .skip
abbrev l_way1_0 : List Nat := [0]
theorem in_way1 {W : Way} (hW : W.nt = 28) {args : List AV} {H : List (Nat × Blk)} {r : AV} {H' : List (Nat × Blk)} (k : Nat) (hl : args.length ≤ 28) (hno : noTups args = true) (hk : ∀ id, look H id ≠ none → id < k)
    (hv : ∀ D, Holds C P 28 D k (FunPost C 28 k [] r H') (vc C W b_way1 [] (start args H) lf)) : Fun C P F_way1 args H r H' := by
  refine fun_of (W := W) ctx mixed (fn := Proofs.Tryd.f53) (c := b_way1) Proofs.Tryd.func53 (by kernel_rfl) (by kernel_rfl) (by kernel_rfl) (by rw [hW]; kernel_rfl) (by rw [hW]; exact hl) hno k hk ?_
  rw [hW, show Proofs.Tryd.f53.results.toList = [] by kernel_rfl]
  exact hv
theorem inE_way1 {W : Way} (hW : W.nt = 28) {args : List AV} {H : List (Nat × Blk)} {r : AV} {H' : List (Nat × Blk)} (k : Nat) (hl : args.length ≤ 28) (hno : noTups args = true) {tm : List (Nat × AV)} {l : Nat} {q : Loop} (htd : distinct (keysOf tm) = true) (hfx : tmIn (under k) tm = tm)
    (hv : ∀ n, Holds C P 28 (domR n tm l q) k (FunPost C 28 k [] r H') (vc C W b_way1 [] (start args H) lf)) : FunE C P (extOf tm q.tmps) (some (l, q)) k F_way1 args H r H' := by
  refine iter_of (W := W) ctx mixed (fn := Proofs.Tryd.f53) (c := b_way1) Proofs.Tryd.func53 (by kernel_rfl) (by kernel_rfl) (by kernel_rfl) (by rw [hW]; kernel_rfl) (by rw [hW]; exact hl) hno k htd hfx ?_
  rw [hW, show Proofs.Tryd.f53.results.toList = [] by kernel_rfl]
  exact hv
theorem nm_way1 : Proofs.Tryd.f53.body = some b_way1 := by kernel_rfl
theorem ng_way1 : (Proofs.Tryd.f53.name == "runtime.NumGoroutine") = false := by kernel_rfl
abbrev F_below : Nat := 54
noncomputable def b_below : Code := Proofs.Tryd.f54.body.getD .skip
theorem in_below {W : Way} (hW : W.nt = 21) {args : List AV} {H : List (Nat × Blk)} {r : AV} {H' : List (Nat × Blk)} (k : Nat) (hl : args.length ≤ 21) (hno : noTups args = true) (hk : ∀ id, look H id ≠ none → id < k)
    (hv : ∀ D, Holds C P 21 D k (FunPost C 21 k [.cell 4 49] r H') (vc C W b_below [] (start args H) lf)) : Fun C P F_below args H r H' := by
  refine fun_of (W := W) ctx mixed (fn := Proofs.Tryd.f54) (c := b_below) Proofs.Tryd.func54 (by kernel_rfl) (by kernel_rfl) (by kernel_rfl) (by rw [hW]; kernel_rfl) (by rw [hW]; exact hl) hno k hk ?_
  rw [hW, show Proofs.Tryd.f54.results.toList = [.cell 4 49] by kernel_rfl]
  exact hv
abbrev F_grow : Nat := 55
noncomputable def b_grow : Code := Proofs.Tryd.f55.body.getD .skip
theorem in_grow {W : Way} (hW : W.nt = 27) {args : List AV} {H : List (Nat × Blk)} {r : AV} {H' : List (Nat × Blk)} (k : Nat) (hl : args.length ≤ 27) (hno : noTups args = true) (hk : ∀ id, look H id ≠ none → id < k)
    (hv : ∀ D, Holds C P 27 D k (FunPost C 27 k [.tmp 4] r H') (vc C W b_grow [] (start args H) lf)) : Fun C P F_grow args H r H' := by
  refine fun_of (W := W) ctx mixed (fn := Proofs.Tryd.f55) (c := b_grow) Proofs.Tryd.func55 (by kernel_rfl) (by kernel_rfl) (by kernel_rfl) (by rw [hW]; kernel_rfl) (by rw [hW]; exact hl) hno k hk ?_
  rw [hW, show Proofs.Tryd.f55.results.toList = [.tmp 4] by kernel_rfl]
  exact hv
abbrev F_idxF : Nat := 56
noncomputable def b_idxF : Code := Proofs.Tryd.f56.body.getD .skip
abbrev l_idxF_0 : List Nat := [1, 0, 1, 0]
theorem in_idxF {W : Way} (hW : W.nt = 19) {args : List AV} {H : List (Nat × Blk)} {r : AV} {H' : List (Nat × Blk)} (k : Nat) (hl : args.length ≤ 19) (hno : noTups args = true) (hk : ∀ id, look H id ≠ none → id < k)
    (hv : ∀ D, Holds C P 19 D k (FunPost C 19 k [.tmp 4] r H') (vc C W b_idxF [] (start args H) lf)) : Fun C P F_idxF args H r H' := by
  refine fun_of (W := W) ctx mixed (fn := Proofs.Tryd.f56) (c := b_idxF) Proofs.Tryd.func56 (by kernel_rfl) (by kernel_rfl) (by kernel_rfl) (by rw [hW]; kernel_rfl) (by rw [hW]; exact hl) hno k hk ?_
  rw [hW, show Proofs.Tryd.f56.results.toList = [.tmp 4] by kernel_rfl]
  exact hv
abbrev F_left : Nat := 57
noncomputable def b_left : Code := Proofs.Tryd.f57.body.getD .skip
theorem in_left {W : Way} (hW : W.nt = 13) {args : List AV} {H : List (Nat × Blk)} {r : AV} {H' : List (Nat × Blk)} (k : Nat) (hl : args.length ≤ 13) (hno : noTups args = true) (hk : ∀ id, look H id ≠ none → id < k)
    (hv : ∀ D, Holds C P 13 D k (FunPost C 13 k [.tmp 4] r H') (vc C W b_left [] (start args H) lf)) : Fun C P F_left args H r H' := by
  refine fun_of (W := W) ctx mixed (fn := Proofs.Tryd.f57) (c := b_left) Proofs.Tryd.func57 (by kernel_rfl) (by kernel_rfl) (by kernel_rfl) (by rw [hW]; kernel_rfl) (by rw [hW]; exact hl) hno k hk ?_
  rw [hW, show Proofs.Tryd.f57.results.toList = [.tmp 4] by kernel_rfl]
  exact hv
abbrev F_reight : Nat := 58
noncomputable def b_reight : Code := Proofs.Tryd.f58.body.getD .skip
abbrev l_reight_0 : List Nat := [1, 1, 0, 1, 0]
theorem in_reight {W : Way} (hW : W.nt = 20) {args : List AV} {H : List (Nat × Blk)} {r : AV} {H' : List (Nat × Blk)} (k : Nat) (hl : args.length ≤ 20) (hno : noTups args = true) (hk : ∀ id, look H id ≠ none → id < k)
    (hv : ∀ D, Holds C P 20 D k (FunPost C 20 k [.tmp 2] r H') (vc C W b_reight [] (start args H) lf)) : Fun C P F_reight args H r H' := by
  refine fun_of (W := W) ctx mixed (fn := Proofs.Tryd.f58) (c := b_reight) Proofs.Tryd.func58 (by kernel_rfl) (by kernel_rfl) (by kernel_rfl) (by rw [hW]; kernel_rfl) (by rw [hW]; exact hl) hno k hk ?_
  rw [hW, show Proofs.Tryd.f58.results.toList = [.tmp 2] by kernel_rfl]
  exact hv
abbrev F_stands : Nat := 59
noncomputable def b_stands : Code := Proofs.Tryd.f59.body.getD .skip
theorem in_stands {W : Way} (hW : W.nt = 21) {args : List AV} {H : List (Nat × Blk)} {r : AV} {H' : List (Nat × Blk)} (k : Nat) (hl : args.length ≤ 21) (hno : noTups args = true) (hk : ∀ id, look H id ≠ none → id < k)
    (hv : ∀ D, Holds C P 21 D k (FunPost C 21 k [.tmp 4] r H') (vc C W b_stands [] (start args H) lf)) : Fun C P F_stands args H r H' := by
  refine fun_of (W := W) ctx mixed (fn := Proofs.Tryd.f59) (c := b_stands) Proofs.Tryd.func59 (by kernel_rfl) (by kernel_rfl) (by kernel_rfl) (by rw [hW]; kernel_rfl) (by rw [hW]; exact hl) hno k hk ?_
  rw [hW, show Proofs.Tryd.f59.results.toList = [.tmp 4] by kernel_rfl]
  exact hv
abbrev F_chunk1 : Nat := 60
noncomputable def b_chunk1 : Code := Proofs.Tryd.f60.body.getD .skip
abbrev l_chunk1_0 : List Nat := [1, 0]
theorem in_chunk1 {W : Way} (hW : W.nt = 31) {args : List AV} {H : List (Nat × Blk)} {r : AV} {H' : List (Nat × Blk)} (k : Nat) (hl : args.length ≤ 31) (hno : noTups args = true) (hk : ∀ id, look H id ≠ none → id < k)
    (hv : ∀ D, Holds C P 31 D k (FunPost C 31 k [] r H') (vc C W b_chunk1 [] (start args H) lf)) : Fun C P F_chunk1 args H r H' := by
  refine fun_of (W := W) ctx mixed (fn := Proofs.Tryd.f60) (c := b_chunk1) Proofs.Tryd.func60 (by kernel_rfl) (by kernel_rfl) (by kernel_rfl) (by rw [hW]; kernel_rfl) (by rw [hW]; exact hl) hno k hk ?_
  rw [hW, show Proofs.Tryd.f60.results.toList = [] by kernel_rfl]
  exact hv
theorem inE_chunk1 {W : Way} (hW : W.nt = 31) {args : List AV} {H : List (Nat × Blk)} {r : AV} {H' : List (Nat × Blk)} (k : Nat) (hl : args.length ≤ 31) (hno : noTups args = true) {tm : List (Nat × AV)} {l : Nat} {q : Loop} (htd : distinct (keysOf tm) = true) (hfx : tmIn (under k) tm = tm)
    (hv : ∀ n, Holds C P 31 (domR n tm l q) k (FunPost C 31 k [] r H') (vc C W b_chunk1 [] (start args H) lf)) : FunE C P (extOf tm q.tmps) (some (l, q)) k F_chunk1 args H r H' := by
  refine iter_of (W := W) ctx mixed (fn := Proofs.Tryd.f60) (c := b_chunk1) Proofs.Tryd.func60 (by kernel_rfl) (by kernel_rfl) (by kernel_rfl) (by rw [hW]; kernel_rfl) (by rw [hW]; exact hl) hno k htd hfx ?_
  rw [hW, show Proofs.Tryd.f60.results.toList = [] by kernel_rfl]
  exact hv
theorem nm_chunk1 : Proofs.Tryd.f60.body = some b_chunk1 := by kernel_rfl
theorem ng_chunk1 : (Proofs.Tryd.f60.name == "runtime.NumGoroutine") = false := by kernel_rfl
abbrev F_of : Nat := 61
noncomputable def b_of : Code := Proofs.Tryd.f61.body.getD .skip
abbrev l_of_0 : List Nat := [1, 1, 0, 1, 0]
theorem in_of {W : Way} (hW : W.nt = 27) {args : List AV} {H : List (Nat × Blk)} {r : AV} {H' : List (Nat × Blk)} (k : Nat) (hl : args.length ≤ 27) (hno : noTups args = true) (hk : ∀ id, look H id ≠ none → id < k)
    (hv : ∀ D, Holds C P 27 D k (FunPost C 27 k [.cell 4 33] r H') (vc C W b_of [] (start args H) lf)) : Fun C P F_of args H r H' := by
  refine fun_of (W := W) ctx mixed (fn := Proofs.Tryd.f61) (c := b_of) Proofs.Tryd.func61 (by kernel_rfl) (by kernel_rfl) (by kernel_rfl) (by rw [hW]; kernel_rfl) (by rw [hW]; exact hl) hno k hk ?_
  rw [hW, show Proofs.Tryd.f61.results.toList = [.cell 4 33] by kernel_rfl]
  exact hv
abbrev F_eight : Nat := 62
noncomputable def b_eight : Code := Proofs.Tryd.f62.body.getD .skip
abbrev l_eight_0 : List Nat := [1, 1, 0, 1, 0]
theorem in_eight {W : Way} (hW : W.nt = 18) {args : List AV} {H : List (Nat × Blk)} {r : AV} {H' : List (Nat × Blk)} (k : Nat) (hl : args.length ≤ 18) (hno : noTups args = true) (hk : ∀ id, look H id ≠ none → id < k)
    (hv : ∀ D, Holds C P 18 D k (FunPost C 18 k [.tmp 2] r H') (vc C W b_eight [] (start args H) lf)) : Fun C P F_eight args H r H' := by
  refine fun_of (W := W) ctx mixed (fn := Proofs.Tryd.f62) (c := b_eight) Proofs.Tryd.func62 (by kernel_rfl) (by kernel_rfl) (by kernel_rfl) (by rw [hW]; kernel_rfl) (by rw [hW]; exact hl) hno k hk ?_
  rw [hW, show Proofs.Tryd.f62.results.toList = [.tmp 2] by kernel_rfl]
  exact hv
abbrev F_sum : Nat := 63
noncomputable def b_sum : Code := Proofs.Tryd.f63.body.getD .skip
abbrev l_sum_0 : List Nat := [1, 1, 1, 1, 0, 0]
abbrev l_sum_1 : List Nat := [1, 1, 1, 1, 1, 1, 1, 1, 1, 1, 1, 0, 1, 0]
theorem in_sum {W : Way} (hW : W.nt = 52) {args : List AV} {H : List (Nat × Blk)} {r : AV} {H' : List (Nat × Blk)} (k : Nat) (hl : args.length ≤ 52) (hno : noTups args = true) (hk : ∀ id, look H id ≠ none → id < k)
    (hv : ∀ D, Holds C P 52 D k (FunPost C 52 k [.cell 2 33] r H') (vc C W b_sum [] (start args H) lf)) : Fun C P F_sum args H r H' := by
  refine fun_of (W := W) ctx mixed (fn := Proofs.Tryd.f63) (c := b_sum) Proofs.Tryd.func63 (by kernel_rfl) (by kernel_rfl) (by kernel_rfl) (by rw [hW]; kernel_rfl) (by rw [hW]; exact hl) hno k hk ?_
  rw [hW, show Proofs.Tryd.f63.results.toList = [.cell 2 33] by kernel_rfl]
  exact hv
abbrev F_turns : Nat := 64
noncomputable def b_turns : Code := Proofs.Tryd.f64.body.getD .skip
abbrev l_turns_0 : List Nat := [1, 1, 1, 0, 1, 0]
theorem in_turns {W : Way} (hW : W.nt = 29) {args : List AV} {H : List (Nat × Blk)} {r : AV} {H' : List (Nat × Blk)} (k : Nat) (hl : args.length ≤ 29) (hno : noTups args = true) (hk : ∀ id, look H id ≠ none → id < k)
    (hv : ∀ D, Holds C P 29 D k (FunPost C 29 k [.cell 0 104] r H') (vc C W b_turns [] (start args H) lf)) : Fun C P F_turns args H r H' := by
  refine fun_of (W := W) ctx mixed (fn := Proofs.Tryd.f64) (c := b_turns) Proofs.Tryd.func64 (by kernel_rfl) (by kernel_rfl) (by kernel_rfl) (by rw [hW]; kernel_rfl) (by rw [hW]; exact hl) hno k hk ?_
  rw [hW, show Proofs.Tryd.f64.results.toList = [.cell 0 104] by kernel_rfl]
  exact hv
abbrev F_mix : Nat := 65
noncomputable def b_mix : Code := Proofs.Tryd.f65.body.getD .skip
abbrev l_mix_0 : List Nat := [0, 1, 0]
abbrev l_mix_1 : List Nat := [1, 1, 0]
theorem in_mix {W : Way} (hW : W.nt = 37) {args : List AV} {H : List (Nat × Blk)} {r : AV} {H' : List (Nat × Blk)} (k : Nat) (hl : args.length ≤ 37) (hno : noTups args = true) (hk : ∀ id, look H id ≠ none → id < k)
    (hv : ∀ D, Holds C P 37 D k (FunPost C 37 k [] r H') (vc C W b_mix [] (start args H) lf)) : Fun C P F_mix args H r H' := by
  refine fun_of (W := W) ctx mixed (fn := Proofs.Tryd.f65) (c := b_mix) Proofs.Tryd.func65 (by kernel_rfl) (by kernel_rfl) (by kernel_rfl) (by rw [hW]; kernel_rfl) (by rw [hW]; exact hl) hno k hk ?_
  rw [hW, show Proofs.Tryd.f65.results.toList = [] by kernel_rfl]
  exact hv
abbrev F_round : Nat := 66
noncomputable def b_round : Code := Proofs.Tryd.f66.body.getD .skip
abbrev l_round_0 : List Nat := [1, 1, 0, 1, 0]
abbrev l_round_1 : List Nat := [1, 1, 1, 1, 0, 1, 0]
abbrev l_round_2 : List Nat := [1, 1, 1, 1, 1, 0, 1, 0]
theorem in_round {W : Way} (hW : W.nt = 104) {args : List AV} {H : List (Nat × Blk)} {r : AV} {H' : List (Nat × Blk)} (k : Nat) (hl : args.length ≤ 104) (hno : noTups args = true) (hk : ∀ id, look H id ≠ none → id < k)
    (hv : ∀ D, Holds C P 104 D k (FunPost C 104 k [.cell 6 107] r H') (vc C W b_round [] (start args H) lf)) : Fun C P F_round args H r H' := by
  refine fun_of (W := W) ctx mixed (fn := Proofs.Tryd.f66) (c := b_round) Proofs.Tryd.func66 (by kernel_rfl) (by kernel_rfl) (by kernel_rfl) (by rw [hW]; kernel_rfl) (by rw [hW]; exact hl) hno k hk ?_
  rw [hW, show Proofs.Tryd.f66.results.toList = [.cell 6 107] by kernel_rfl]
  exact hv
abbrev F_rotl : Nat := 67
noncomputable def b_rotl : Code := Proofs.Tryd.f67.body.getD .skip
theorem in_rotl {W : Way} (hW : W.nt = 17) {args : List AV} {H : List (Nat × Blk)} {r : AV} {H' : List (Nat × Blk)} (k : Nat) (hl : args.length ≤ 17) (hno : noTups args = true) (hk : ∀ id, look H id ≠ none → id < k)
    (hv : ∀ D, Holds C P 17 D k (FunPost C 17 k [.tmp 4] r H') (vc C W b_rotl [] (start args H) lf)) : Fun C P F_rotl args H r H' := by
  refine fun_of (W := W) ctx mixed (fn := Proofs.Tryd.f67) (c := b_rotl) Proofs.Tryd.func67 (by kernel_rfl) (by kernel_rfl) (by kernel_rfl) (by rw [hW]; kernel_rfl) (by rw [hW]; exact hl) hno k hk ?_
  rw [hW, show Proofs.Tryd.f67.results.toList = [.tmp 4] by kernel_rfl]
  exact hv
abbrev F_stream : Nat := 100000
abbrev F_rstream : Nat := 100001
end Go.Bu.W

