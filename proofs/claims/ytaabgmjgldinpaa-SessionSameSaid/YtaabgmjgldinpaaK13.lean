/- The seat's types, for the abstract machine. -/
import Derived.Test.YtaabgmjgldinpaaK10
import Derived.Test.YtaabgmjgldinpaaChecked
import Derived.Test.YtaabgmjgldinpaaK12
namespace Go.Bu.W
def tys : List TI := [
  ⟨.other, 0, 0⟩,
  ⟨.func, 1, 8⟩,
  ⟨.int .i64, 1, 8⟩,
  ⟨.int .i64, 1, 8⟩,
  ⟨.bool, 1, 1⟩,
  ⟨.int .u8, 1, 1⟩,
  ⟨.int .u8, 1, 1⟩,
  ⟨.struct [(2, 0), (3, 1), (4, 2), (6, 3)], 4, 24⟩,
  ⟨.struct [(2, 0), (3, 1), (4, 2), (6, 3)], 4, 24⟩,
  ⟨.str, 1, 16⟩,
  ⟨.str, 1, 16⟩,
  ⟨.str, 1, 16⟩,
  ⟨.int .u64, 1, 8⟩,
  ⟨.other, 0, 0⟩,
  ⟨.other, 0, 0⟩,
  ⟨.ptr 101, 1, 8⟩,
  ⟨.ptr 104, 1, 8⟩,
  ⟨.ptr 114, 1, 8⟩,
  ⟨.other, 0, 0⟩,
  ⟨.other, 0, 0⟩,
  ⟨.iface, 1, 16⟩,
  ⟨.int .i32, 1, 4⟩,
  ⟨.slice 31, 1, 24⟩,
  ⟨.func, 1, 8⟩,
  ⟨.slice 48, 1, 24⟩,
  ⟨.array 4 3 false, 4, 32⟩,
  ⟨.int .i64, 1, 8⟩,
  ⟨.struct [(24, 0), (26, 1)], 2, 32⟩,
  ⟨.struct [(24, 0), (26, 1)], 2, 32⟩,
  ⟨.func, 1, 8⟩,
  ⟨.func, 1, 8⟩,
  ⟨.array 2 5 false, 2, 2⟩,
  ⟨.slice 9, 1, 24⟩,
  ⟨.slice 53, 1, 24⟩,
  ⟨.slice 55, 1, 24⟩,
  ⟨.slice 57, 1, 24⟩,
  ⟨.struct [(3, 0), (3, 1), (3, 2), (34, 3), (35, 4), (33, 5), (3, 6), (3, 7)], 8, 112⟩,
  ⟨.struct [(3, 0), (3, 1), (3, 2), (34, 3), (35, 4), (33, 5), (3, 6), (3, 7)], 8, 112⟩,
  ⟨.struct [(26, 0), (3, 1), (32, 2), (33, 3), (37, 4)], 12, 176⟩,
  ⟨.struct [(26, 0), (3, 1), (32, 2), (33, 3), (37, 4)], 12, 176⟩,
  ⟨.struct [(39, 0), (4, 12), (26, 13)], 14, 192⟩,
  ⟨.struct [(39, 0), (4, 12), (26, 13)], 14, 192⟩,
  ⟨.func, 1, 8⟩,
  ⟨.func, 1, 8⟩,
  ⟨.func, 1, 8⟩,
  ⟨.slice 51, 1, 24⟩,
  ⟨.func, 1, 8⟩,
  ⟨.struct [(3, 0), (3, 1), (39, 2)], 14, 192⟩,
  ⟨.struct [(3, 0), (3, 1), (39, 2)], 14, 192⟩,
  ⟨.func, 1, 8⟩,
  ⟨.func, 1, 8⟩,
  ⟨.array 3 5 false, 3, 3⟩,
  ⟨.struct [(3, 0), (3, 1), (3, 2)], 3, 24⟩,
  ⟨.struct [(3, 0), (3, 1), (3, 2)], 3, 24⟩,
  ⟨.struct [(3, 0), (4, 1), (3, 2), (3, 3), (4, 4)], 5, 40⟩,
  ⟨.struct [(3, 0), (4, 1), (3, 2), (3, 3), (4, 4)], 5, 40⟩,
  ⟨.struct [(9, 0), (3, 1)], 2, 24⟩,
  ⟨.struct [(9, 0), (3, 1)], 2, 24⟩,
  ⟨.func, 1, 8⟩,
  ⟨.func, 1, 8⟩,
  ⟨.array 2 3 false, 2, 16⟩,
  ⟨.func, 1, 8⟩,
  ⟨.func, 1, 8⟩,
  ⟨.func, 1, 8⟩,
  ⟨.slice 28, 1, 24⟩,
  ⟨.func, 1, 8⟩,
  ⟨.func, 1, 8⟩,
  ⟨.func, 1, 8⟩,
  ⟨.other, 0, 0⟩,
  ⟨.func, 1, 8⟩,
  ⟨.other, 0, 0⟩,
  ⟨.func, 1, 8⟩,
  ⟨.func, 1, 8⟩,
  ⟨.func, 1, 8⟩,
  ⟨.func, 1, 8⟩,
  ⟨.func, 1, 8⟩,
  ⟨.func, 1, 8⟩,
  ⟨.slice 23, 1, 24⟩,
  ⟨.func, 1, 8⟩,
  ⟨.func, 1, 8⟩,
  ⟨.func, 1, 8⟩,
  ⟨.other, 0, 0⟩,
  ⟨.func, 1, 8⟩,
  ⟨.func, 1, 8⟩,
  ⟨.func, 1, 8⟩,
  ⟨.func, 1, 8⟩,
  ⟨.func, 1, 8⟩,
  ⟨.func, 1, 8⟩,
  ⟨.func, 1, 8⟩,
  ⟨.func, 1, 8⟩,
  ⟨.func, 1, 8⟩,
  ⟨.slice 24, 1, 24⟩,
  ⟨.func, 1, 8⟩,
  ⟨.func, 1, 8⟩,
  ⟨.func, 1, 8⟩,
  ⟨.func, 1, 8⟩,
  ⟨.int .u64, 1, 8⟩,
  ⟨.func, 1, 8⟩,
  ⟨.func, 1, 8⟩,
  ⟨.func, 1, 8⟩,
  ⟨.other, 0, 0⟩,
  ⟨.other, 0, 0⟩,
  ⟨.other, 0, 0⟩,
  ⟨.other, 0, 0⟩,
  ⟨.other, 0, 0⟩,
  ⟨.func, 1, 8⟩,
  ⟨.int .u32, 1, 4⟩,
  ⟨.int .u8, 1, 1⟩,
  ⟨.int .u8, 1, 1⟩,
  ⟨.func, 1, 8⟩,
  ⟨.ptr 5, 1, 8⟩,
  ⟨.int .i32, 1, 4⟩,
  ⟨.int .i32, 1, 4⟩,
  ⟨.other, 0, 0⟩,
  ⟨.other, 0, 0⟩,
  ⟨.other, 0, 0⟩]


def gls (_ : Nat) : Option AV := none
def C : Ctx := ⟨ttOf tys, gls⟩
noncomputable abbrev P : Program := Proofs.Try.prog

set_option maxRecDepth 100000 in
theorem ctx : CtxOK C P := ctx_ok (by kernel_rfl) (by kernel_rfl) (by kernel_rfl) (by kernel_rfl)
theorem mixed : P.follows .mixedOrders = true := Checked.mixed Proofs.Try.checked
end Go.Bu.W

namespace Go.Bu.W
abbrev F_sso : Nat := 3
noncomputable def b_sso : Code := Proofs.Try.f3.body.getD .skip
abbrev l_sso_0 : List Nat := [1, 1, 1, 0, 1, 0]
abbrev l_sso_1 : List Nat := [1, 1, 1, 1, 0, 1, 0]
theorem in_sso {W : Way} (hW : W.nt = 110) {args : List AV} {H : List (Nat × Blk)} {r : AV} {H' : List (Nat × Blk)} (k : Nat) (hl : args.length ≤ 110) (hno : noTups args = true) (hk : ∀ id, look H id ≠ none → id < k)
    (hv : Holds C P 110 [] k (FunPost C 110 k [.tmp 2] r H') (vc C W b_sso [] (start args H) lf)) : Fun C P F_sso args H r H' := by
  refine fun_of (W := W) ctx mixed (fn := Proofs.Try.f3) (c := b_sso) Proofs.Try.func3 (by kernel_rfl) (by kernel_rfl) (by kernel_rfl) (by rw [hW]; kernel_rfl) (by rw [hW]; exact hl) hno k hk ?_
  rw [hW, show Proofs.Try.f3.results.toList = [.tmp 2] by kernel_rfl]
  exact hv
abbrev F_ssp : Nat := 4
noncomputable def b_ssp : Code := Proofs.Try.f4.body.getD .skip
theorem in_ssp {W : Way} (hW : W.nt = 122) {args : List AV} {H : List (Nat × Blk)} {r : AV} {H' : List (Nat × Blk)} (k : Nat) (hl : args.length ≤ 122) (hno : noTups args = true) (hk : ∀ id, look H id ≠ none → id < k)
    (hv : Holds C P 122 [] k (FunPost C 122 k [.tmp 6] r H') (vc C W b_ssp [] (start args H) lf)) : Fun C P F_ssp args H r H' := by
  refine fun_of (W := W) ctx mixed (fn := Proofs.Try.f4) (c := b_ssp) Proofs.Try.func4 (by kernel_rfl) (by kernel_rfl) (by kernel_rfl) (by rw [hW]; kernel_rfl) (by rw [hW]; exact hl) hno k hk ?_
  rw [hW, show Proofs.Try.f4.results.toList = [.tmp 6] by kernel_rfl]
  exact hv
abbrev F_sss : Nat := 5
noncomputable def b_sss : Code := Proofs.Try.f5.body.getD .skip
theorem in_sss {W : Way} (hW : W.nt = 174) {args : List AV} {H : List (Nat × Blk)} {r : AV} {H' : List (Nat × Blk)} (k : Nat) (hl : args.length ≤ 174) (hno : noTups args = true) (hk : ∀ id, look H id ≠ none → id < k)
    (hv : Holds C P 174 [] k (FunPost C 174 k [.tmp 4] r H') (vc C W b_sss [] (start args H) lf)) : Fun C P F_sss args H r H' := by
  refine fun_of (W := W) ctx mixed (fn := Proofs.Try.f5) (c := b_sss) Proofs.Try.func5 (by kernel_rfl) (by kernel_rfl) (by kernel_rfl) (by rw [hW]; kernel_rfl) (by rw [hW]; exact hl) hno k hk ?_
  rw [hW, show Proofs.Try.f5.results.toList = [.tmp 4] by kernel_rfl]
  exact hv
abbrev F_ssm : Nat := 6
noncomputable def b_ssm : Code := Proofs.Try.f6.body.getD .skip
theorem in_ssm {W : Way} (hW : W.nt = 148) {args : List AV} {H : List (Nat × Blk)} {r : AV} {H' : List (Nat × Blk)} (k : Nat) (hl : args.length ≤ 148) (hno : noTups args = true) (hk : ∀ id, look H id ≠ none → id < k)
    (hv : Holds C P 148 [] k (FunPost C 148 k [.tmp 6] r H') (vc C W b_ssm [] (start args H) lf)) : Fun C P F_ssm args H r H' := by
  refine fun_of (W := W) ctx mixed (fn := Proofs.Try.f6) (c := b_ssm) Proofs.Try.func6 (by kernel_rfl) (by kernel_rfl) (by kernel_rfl) (by rw [hW]; kernel_rfl) (by rw [hW]; exact hl) hno k hk ?_
  rw [hW, show Proofs.Try.f6.results.toList = [.tmp 6] by kernel_rfl]
  exact hv
abbrev F_ssa : Nat := 7
noncomputable def b_ssa : Code := Proofs.Try.f7.body.getD .skip
abbrev l_ssa_0 : List Nat := [1, 1, 1, 1, 1, 1, 1, 1, 0, 1, 0]
abbrev l_ssa_1 : List Nat := [1, 1, 1, 1, 1, 1, 1, 1, 0, 1, 0, 0, 1, 0, 0, 1, 1, 0]
theorem in_ssa {W : Way} (hW : W.nt = 94) {args : List AV} {H : List (Nat × Blk)} {r : AV} {H' : List (Nat × Blk)} (k : Nat) (hl : args.length ≤ 94) (hno : noTups args = true) (hk : ∀ id, look H id ≠ none → id < k)
    (hv : Holds C P 94 [] k (FunPost C 94 k [.tmp 4] r H') (vc C W b_ssa [] (start args H) lf)) : Fun C P F_ssa args H r H' := by
  refine fun_of (W := W) ctx mixed (fn := Proofs.Try.f7) (c := b_ssa) Proofs.Try.func7 (by kernel_rfl) (by kernel_rfl) (by kernel_rfl) (by rw [hW]; kernel_rfl) (by rw [hW]; exact hl) hno k hk ?_
  rw [hW, show Proofs.Try.f7.results.toList = [.tmp 4] by kernel_rfl]
  exact hv
abbrev F_ssl : Nat := 8
noncomputable def b_ssl : Code := Proofs.Try.f8.body.getD .skip
abbrev l_ssl_0 : List Nat := [1, 1, 1, 0, 1, 0]
theorem in_ssl {W : Way} (hW : W.nt = 109) {args : List AV} {H : List (Nat × Blk)} {r : AV} {H' : List (Nat × Blk)} (k : Nat) (hl : args.length ≤ 109) (hno : noTups args = true) (hk : ∀ id, look H id ≠ none → id < k)
    (hv : Holds C P 109 [] k (FunPost C 109 k [.tmp 4] r H') (vc C W b_ssl [] (start args H) lf)) : Fun C P F_ssl args H r H' := by
  refine fun_of (W := W) ctx mixed (fn := Proofs.Try.f8) (c := b_ssl) Proofs.Try.func8 (by kernel_rfl) (by kernel_rfl) (by kernel_rfl) (by rw [hW]; kernel_rfl) (by rw [hW]; exact hl) hno k hk ?_
  rw [hW, show Proofs.Try.f8.results.toList = [.tmp 4] by kernel_rfl]
  exact hv
abbrev F_ssr : Nat := 9
noncomputable def b_ssr : Code := Proofs.Try.f9.body.getD .skip
theorem in_ssr {W : Way} (hW : W.nt = 125) {args : List AV} {H : List (Nat × Blk)} {r : AV} {H' : List (Nat × Blk)} (k : Nat) (hl : args.length ≤ 125) (hno : noTups args = true) (hk : ∀ id, look H id ≠ none → id < k)
    (hv : Holds C P 125 [] k (FunPost C 125 k [.tmp 6] r H') (vc C W b_ssr [] (start args H) lf)) : Fun C P F_ssr args H r H' := by
  refine fun_of (W := W) ctx mixed (fn := Proofs.Try.f9) (c := b_ssr) Proofs.Try.func9 (by kernel_rfl) (by kernel_rfl) (by kernel_rfl) (by rw [hW]; kernel_rfl) (by rw [hW]; exact hl) hno k hk ?_
  rw [hW, show Proofs.Try.f9.results.toList = [.tmp 6] by kernel_rfl]
  exact hv
abbrev F_sanity : Nat := 10
noncomputable def b_sanity : Code := Proofs.Try.f10.body.getD .skip
theorem in_sanity {W : Way} (hW : W.nt = 99) {args : List AV} {H : List (Nat × Blk)} {r : AV} {H' : List (Nat × Blk)} (k : Nat) (hl : args.length ≤ 99) (hno : noTups args = true) (hk : ∀ id, look H id ≠ none → id < k)
    (hv : Holds C P 99 [] k (FunPost C 99 k [.tmp 0] r H') (vc C W b_sanity [] (start args H) lf)) : Fun C P F_sanity args H r H' := by
  refine fun_of (W := W) ctx mixed (fn := Proofs.Try.f10) (c := b_sanity) Proofs.Try.func10 (by kernel_rfl) (by kernel_rfl) (by kernel_rfl) (by rw [hW]; kernel_rfl) (by rw [hW]; exact hl) hno k hk ?_
  rw [hW, show Proofs.Try.f10.results.toList = [.tmp 0] by kernel_rfl]
  exact hv
abbrev F_begin : Nat := 11
noncomputable def b_begin : Code := Proofs.Try.f11.body.getD .skip
theorem in_begin {W : Way} (hW : W.nt = 16) {args : List AV} {H : List (Nat × Blk)} {r : AV} {H' : List (Nat × Blk)} (k : Nat) (hl : args.length ≤ 16) (hno : noTups args = true) (hk : ∀ id, look H id ≠ none → id < k)
    (hv : Holds C P 16 [] k (FunPost C 16 k [.cell 4 28] r H') (vc C W b_begin [] (start args H) lf)) : Fun C P F_begin args H r H' := by
  refine fun_of (W := W) ctx mixed (fn := Proofs.Try.f11) (c := b_begin) Proofs.Try.func11 (by kernel_rfl) (by kernel_rfl) (by kernel_rfl) (by rw [hW]; kernel_rfl) (by rw [hW]; exact hl) hno k hk ?_
  rw [hW, show Proofs.Try.f11.results.toList = [.cell 4 28] by kernel_rfl]
  exact hv
abbrev F_rvalid : Nat := 12
noncomputable def b_rvalid : Code := Proofs.Try.f12.body.getD .skip
abbrev l_rvalid_0 : List Nat := [1, 0, 1, 0]
theorem in_rvalid {W : Way} (hW : W.nt = 71) {args : List AV} {H : List (Nat × Blk)} {r : AV} {H' : List (Nat × Blk)} (k : Nat) (hl : args.length ≤ 71) (hno : noTups args = true) (hk : ∀ id, look H id ≠ none → id < k)
    (hv : Holds C P 71 [] k (FunPost C 71 k [.tmp 2] r H') (vc C W b_rvalid [] (start args H) lf)) : Fun C P F_rvalid args H r H' := by
  refine fun_of (W := W) ctx mixed (fn := Proofs.Try.f12) (c := b_rvalid) Proofs.Try.func12 (by kernel_rfl) (by kernel_rfl) (by kernel_rfl) (by rw [hW]; kernel_rfl) (by rw [hW]; exact hl) hno k hk ?_
  rw [hW, show Proofs.Try.f12.results.toList = [.tmp 2] by kernel_rfl]
  exact hv
abbrev F_seen : Nat := 13
noncomputable def b_seen : Code := Proofs.Try.f13.body.getD .skip
theorem in_seen {W : Way} (hW : W.nt = 22) {args : List AV} {H : List (Nat × Blk)} {r : AV} {H' : List (Nat × Blk)} (k : Nat) (hl : args.length ≤ 22) (hno : noTups args = true) (hk : ∀ id, look H id ≠ none → id < k)
    (hv : Holds C P 22 [] k (FunPost C 22 k [.cell 6 41] r H') (vc C W b_seen [] (start args H) lf)) : Fun C P F_seen args H r H' := by
  refine fun_of (W := W) ctx mixed (fn := Proofs.Try.f13) (c := b_seen) Proofs.Try.func13 (by kernel_rfl) (by kernel_rfl) (by kernel_rfl) (by rw [hW]; kernel_rfl) (by rw [hW]; exact hl) hno k hk ?_
  rw [hW, show Proofs.Try.f13.results.toList = [.cell 6 41] by kernel_rfl]
  exact hv
abbrev F_done : Nat := 14
noncomputable def b_done : Code := Proofs.Try.f14.body.getD .skip
theorem in_done {W : Way} (hW : W.nt = 22) {args : List AV} {H : List (Nat × Blk)} {r : AV} {H' : List (Nat × Blk)} (k : Nat) (hl : args.length ≤ 22) (hno : noTups args = true) (hk : ∀ id, look H id ≠ none → id < k)
    (hv : Holds C P 22 [] k (FunPost C 22 k [.cell 8 28] r H') (vc C W b_done [] (start args H) lf)) : Fun C P F_done args H r H' := by
  refine fun_of (W := W) ctx mixed (fn := Proofs.Try.f14) (c := b_done) Proofs.Try.func14 (by kernel_rfl) (by kernel_rfl) (by kernel_rfl) (by rw [hW]; kernel_rfl) (by rw [hW]; exact hl) hno k hk ?_
  rw [hW, show Proofs.Try.f14.results.toList = [.cell 8 28] by kernel_rfl]
  exact hv
abbrev F_made : Nat := 15
noncomputable def b_made : Code := Proofs.Try.f15.body.getD .skip
abbrev l_made_0 : List Nat := [1, 1, 0, 1, 0]
abbrev l_made_1 : List Nat := [1, 1, 0, 1, 0, 0, 1, 0, 0, 1, 1, 1, 0, 1, 0]
theorem in_made {W : Way} (hW : W.nt = 83) {args : List AV} {H : List (Nat × Blk)} {r : AV} {H' : List (Nat × Blk)} (k : Nat) (hl : args.length ≤ 83) (hno : noTups args = true) (hk : ∀ id, look H id ≠ none → id < k)
    (hv : Holds C P 83 [] k (FunPost C 83 k [.tmp 2] r H') (vc C W b_made [] (start args H) lf)) : Fun C P F_made args H r H' := by
  refine fun_of (W := W) ctx mixed (fn := Proofs.Try.f15) (c := b_made) Proofs.Try.func15 (by kernel_rfl) (by kernel_rfl) (by kernel_rfl) (by rw [hW]; kernel_rfl) (by rw [hW]; exact hl) hno k hk ?_
  rw [hW, show Proofs.Try.f15.results.toList = [.tmp 2] by kernel_rfl]
  exact hv
abbrev F_sameL : Nat := 16
noncomputable def b_sameL : Code := Proofs.Try.f16.body.getD .skip
theorem in_sameL {W : Way} (hW : W.nt = 24) {args : List AV} {H : List (Nat × Blk)} {r : AV} {H' : List (Nat × Blk)} (k : Nat) (hl : args.length ≤ 24) (hno : noTups args = true) (hk : ∀ id, look H id ≠ none → id < k)
    (hv : Holds C P 24 [] k (FunPost C 24 k [.tmp 4] r H') (vc C W b_sameL [] (start args H) lf)) : Fun C P F_sameL args H r H' := by
  refine fun_of (W := W) ctx mixed (fn := Proofs.Try.f16) (c := b_sameL) Proofs.Try.func16 (by kernel_rfl) (by kernel_rfl) (by kernel_rfl) (by rw [hW]; kernel_rfl) (by rw [hW]; exact hl) hno k hk ?_
  rw [hW, show Proofs.Try.f16.results.toList = [.tmp 4] by kernel_rfl]
  exact hv
abbrev F_sameR : Nat := 17
noncomputable def b_sameR : Code := Proofs.Try.f17.body.getD .skip
theorem in_sameR {W : Way} (hW : W.nt = 22) {args : List AV} {H : List (Nat × Blk)} {r : AV} {H' : List (Nat × Blk)} (k : Nat) (hl : args.length ≤ 22) (hno : noTups args = true) (hk : ∀ id, look H id ≠ none → id < k)
    (hv : Holds C P 22 [] k (FunPost C 22 k [.tmp 4] r H') (vc C W b_sameR [] (start args H) lf)) : Fun C P F_sameR args H r H' := by
  refine fun_of (W := W) ctx mixed (fn := Proofs.Try.f17) (c := b_sameR) Proofs.Try.func17 (by kernel_rfl) (by kernel_rfl) (by kernel_rfl) (by rw [hW]; kernel_rfl) (by rw [hW]; exact hl) hno k hk ?_
  rw [hW, show Proofs.Try.f17.results.toList = [.tmp 4] by kernel_rfl]
  exact hv
abbrev F_rfind : Nat := 18
noncomputable def b_rfind : Code := Proofs.Try.f18.body.getD .skip
abbrev l_rfind_0 : List Nat := [1, 0, 1, 0]
theorem in_rfind {W : Way} (hW : W.nt = 20) {args : List AV} {H : List (Nat × Blk)} {r : AV} {H' : List (Nat × Blk)} (k : Nat) (hl : args.length ≤ 20) (hno : noTups args = true) (hk : ∀ id, look H id ≠ none → id < k)
    (hv : Holds C P 20 [] k (FunPost C 20 k [.tmp 4] r H') (vc C W b_rfind [] (start args H) lf)) : Fun C P F_rfind args H r H' := by
  refine fun_of (W := W) ctx mixed (fn := Proofs.Try.f18) (c := b_rfind) Proofs.Try.func18 (by kernel_rfl) (by kernel_rfl) (by kernel_rfl) (by rw [hW]; kernel_rfl) (by rw [hW]; exact hl) hno k hk ?_
  rw [hW, show Proofs.Try.f18.results.toList = [.tmp 4] by kernel_rfl]
  exact hv
abbrev F_sameT : Nat := 19
noncomputable def b_sameT : Code := Proofs.Try.f19.body.getD .skip
theorem in_sameT {W : Way} (hW : W.nt = 17) {args : List AV} {H : List (Nat × Blk)} {r : AV} {H' : List (Nat × Blk)} (k : Nat) (hl : args.length ≤ 17) (hno : noTups args = true) (hk : ∀ id, look H id ≠ none → id < k)
    (hv : Holds C P 17 [] k (FunPost C 17 k [.tmp 4] r H') (vc C W b_sameT [] (start args H) lf)) : Fun C P F_sameT args H r H' := by
  refine fun_of (W := W) ctx mixed (fn := Proofs.Try.f19) (c := b_sameT) Proofs.Try.func19 (by kernel_rfl) (by kernel_rfl) (by kernel_rfl) (by rw [hW]; kernel_rfl) (by rw [hW]; exact hl) hno k hk ?_
  rw [hW, show Proofs.Try.f19.results.toList = [.tmp 4] by kernel_rfl]
  exact hv
abbrev F_rbegin : Nat := 20
noncomputable def b_rbegin : Code := Proofs.Try.f20.body.getD .skip
abbrev l_rbegin_0 : List Nat := [1, 1, 1, 1, 1, 0, 1, 0]
theorem in_rbegin {W : Way} (hW : W.nt = 62) {args : List AV} {H : List (Nat × Blk)} {r : AV} {H' : List (Nat × Blk)} (k : Nat) (hl : args.length ≤ 62) (hno : noTups args = true) (hk : ∀ id, look H id ≠ none → id < k)
    (hv : Holds C P 62 [] k (FunPost C 62 k [.cell 4 28] r H') (vc C W b_rbegin [] (start args H) lf)) : Fun C P F_rbegin args H r H' := by
  refine fun_of (W := W) ctx mixed (fn := Proofs.Try.f20) (c := b_rbegin) Proofs.Try.func20 (by kernel_rfl) (by kernel_rfl) (by kernel_rfl) (by rw [hW]; kernel_rfl) (by rw [hW]; exact hl) hno k hk ?_
  rw [hW, show Proofs.Try.f20.results.toList = [.cell 4 28] by kernel_rfl]
  exact hv
abbrev F_rseen : Nat := 21
noncomputable def b_rseen : Code := Proofs.Try.f21.body.getD .skip
theorem in_rseen {W : Way} (hW : W.nt = 51) {args : List AV} {H : List (Nat × Blk)} {r : AV} {H' : List (Nat × Blk)} (k : Nat) (hl : args.length ≤ 51) (hno : noTups args = true) (hk : ∀ id, look H id ≠ none → id < k)
    (hv : Holds C P 51 [] k (FunPost C 51 k [.cell 6 41] r H') (vc C W b_rseen [] (start args H) lf)) : Fun C P F_rseen args H r H' := by
  refine fun_of (W := W) ctx mixed (fn := Proofs.Try.f21) (c := b_rseen) Proofs.Try.func21 (by kernel_rfl) (by kernel_rfl) (by kernel_rfl) (by rw [hW]; kernel_rfl) (by rw [hW]; exact hl) hno k hk ?_
  rw [hW, show Proofs.Try.f21.results.toList = [.cell 6 41] by kernel_rfl]
  exact hv
abbrev F_rdone : Nat := 22
noncomputable def b_rdone : Code := Proofs.Try.f22.body.getD .skip
theorem in_rdone {W : Way} (hW : W.nt = 47) {args : List AV} {H : List (Nat × Blk)} {r : AV} {H' : List (Nat × Blk)} (k : Nat) (hl : args.length ≤ 47) (hno : noTups args = true) (hk : ∀ id, look H id ≠ none → id < k)
    (hv : Holds C P 47 [] k (FunPost C 47 k [.cell 8 28] r H') (vc C W b_rdone [] (start args H) lf)) : Fun C P F_rdone args H r H' := by
  refine fun_of (W := W) ctx mixed (fn := Proofs.Try.f22) (c := b_rdone) Proofs.Try.func22 (by kernel_rfl) (by kernel_rfl) (by kernel_rfl) (by rw [hW]; kernel_rfl) (by rw [hW]; exact hl) hno k hk ?_
  rw [hW, show Proofs.Try.f22.results.toList = [.cell 8 28] by kernel_rfl]
  exact hv
abbrev F_endS : Nat := 23
noncomputable def b_endS : Code := Proofs.Try.f23.body.getD .skip
theorem in_endS {W : Way} (hW : W.nt = 16) {args : List AV} {H : List (Nat × Blk)} {r : AV} {H' : List (Nat × Blk)} (k : Nat) (hl : args.length ≤ 16) (hno : noTups args = true) (hk : ∀ id, look H id ≠ none → id < k)
    (hv : Holds C P 16 [] k (FunPost C 16 k [.cell 4 28] r H') (vc C W b_endS [] (start args H) lf)) : Fun C P F_endS args H r H' := by
  refine fun_of (W := W) ctx mixed (fn := Proofs.Try.f23) (c := b_endS) Proofs.Try.func23 (by kernel_rfl) (by kernel_rfl) (by kernel_rfl) (by rw [hW]; kernel_rfl) (by rw [hW]; exact hl) hno k hk ?_
  rw [hW, show Proofs.Try.f23.results.toList = [.cell 4 28] by kernel_rfl]
  exact hv
abbrev F_rend : Nat := 24
noncomputable def b_rend : Code := Proofs.Try.f24.body.getD .skip
theorem in_rend {W : Way} (hW : W.nt = 26) {args : List AV} {H : List (Nat × Blk)} {r : AV} {H' : List (Nat × Blk)} (k : Nat) (hl : args.length ≤ 26) (hno : noTups args = true) (hk : ∀ id, look H id ≠ none → id < k)
    (hv : Holds C P 26 [] k (FunPost C 26 k [.cell 4 28] r H') (vc C W b_rend [] (start args H) lf)) : Fun C P F_rend args H r H' := by
  refine fun_of (W := W) ctx mixed (fn := Proofs.Try.f24) (c := b_rend) Proofs.Try.func24 (by kernel_rfl) (by kernel_rfl) (by kernel_rfl) (by rw [hW]; kernel_rfl) (by rw [hW]; exact hl) hno k hk ?_
  rw [hW, show Proofs.Try.f24.results.toList = [.cell 4 28] by kernel_rfl]
  exact hv
abbrev F_valid : Nat := 25
noncomputable def b_valid : Code := Proofs.Try.f25.body.getD .skip
abbrev l_valid_0 : List Nat := [1, 1, 0, 1, 0]
theorem in_valid {W : Way} (hW : W.nt = 44) {args : List AV} {H : List (Nat × Blk)} {r : AV} {H' : List (Nat × Blk)} (k : Nat) (hl : args.length ≤ 44) (hno : noTups args = true) (hk : ∀ id, look H id ≠ none → id < k)
    (hv : Holds C P 44 [] k (FunPost C 44 k [.tmp 2] r H') (vc C W b_valid [] (start args H) lf)) : Fun C P F_valid args H r H' := by
  refine fun_of (W := W) ctx mixed (fn := Proofs.Try.f25) (c := b_valid) Proofs.Try.func25 (by kernel_rfl) (by kernel_rfl) (by kernel_rfl) (by rw [hW]; kernel_rfl) (by rw [hW]; exact hl) hno k hk ?_
  rw [hW, show Proofs.Try.f25.results.toList = [.tmp 2] by kernel_rfl]
  exact hv
abbrev F_sbegin : Nat := 26
noncomputable def b_sbegin : Code := Proofs.Try.f26.body.getD .skip
theorem in_sbegin {W : Way} (hW : W.nt = 33) {args : List AV} {H : List (Nat × Blk)} {r : AV} {H' : List (Nat × Blk)} (k : Nat) (hl : args.length ≤ 33) (hno : noTups args = true) (hk : ∀ id, look H id ≠ none → id < k)
    (hv : Holds C P 33 [] k (FunPost C 33 k [.tmp 4, .tmp 5] r H') (vc C W b_sbegin [] (start args H) lf)) : Fun C P F_sbegin args H r H' := by
  refine fun_of (W := W) ctx mixed (fn := Proofs.Try.f26) (c := b_sbegin) Proofs.Try.func26 (by kernel_rfl) (by kernel_rfl) (by kernel_rfl) (by rw [hW]; kernel_rfl) (by rw [hW]; exact hl) hno k hk ?_
  rw [hW, show Proofs.Try.f26.results.toList = [.tmp 4, .tmp 5] by kernel_rfl]
  exact hv
abbrev F_rsameR : Nat := 27
noncomputable def b_rsameR : Code := Proofs.Try.f27.body.getD .skip
theorem in_rsameR {W : Way} (hW : W.nt = 38) {args : List AV} {H : List (Nat × Blk)} {r : AV} {H' : List (Nat × Blk)} (k : Nat) (hl : args.length ≤ 38) (hno : noTups args = true) (hk : ∀ id, look H id ≠ none → id < k)
    (hv : Holds C P 38 [] k (FunPost C 38 k [.tmp 4] r H') (vc C W b_rsameR [] (start args H) lf)) : Fun C P F_rsameR args H r H' := by
  refine fun_of (W := W) ctx mixed (fn := Proofs.Try.f27) (c := b_rsameR) Proofs.Try.func27 (by kernel_rfl) (by kernel_rfl) (by kernel_rfl) (by rw [hW]; kernel_rfl) (by rw [hW]; exact hl) hno k hk ?_
  rw [hW, show Proofs.Try.f27.results.toList = [.tmp 4] by kernel_rfl]
  exact hv
abbrev F_sseen : Nat := 28
noncomputable def b_sseen : Code := Proofs.Try.f28.body.getD .skip
theorem in_sseen {W : Way} (hW : W.nt = 59) {args : List AV} {H : List (Nat × Blk)} {r : AV} {H' : List (Nat × Blk)} (k : Nat) (hl : args.length ≤ 59) (hno : noTups args = true) (hk : ∀ id, look H id ≠ none → id < k)
    (hv : Holds C P 59 [] k (FunPost C 59 k [.cell 6 39, .tmp 7, .tmp 8] r H') (vc C W b_sseen [] (start args H) lf)) : Fun C P F_sseen args H r H' := by
  refine fun_of (W := W) ctx mixed (fn := Proofs.Try.f28) (c := b_sseen) Proofs.Try.func28 (by kernel_rfl) (by kernel_rfl) (by kernel_rfl) (by rw [hW]; kernel_rfl) (by rw [hW]; exact hl) hno k hk ?_
  rw [hW, show Proofs.Try.f28.results.toList = [.cell 6 39, .tmp 7, .tmp 8] by kernel_rfl]
  exact hv
abbrev F_sdone : Nat := 29
noncomputable def b_sdone : Code := Proofs.Try.f29.body.getD .skip
theorem in_sdone {W : Way} (hW : W.nt = 44) {args : List AV} {H : List (Nat × Blk)} {r : AV} {H' : List (Nat × Blk)} (k : Nat) (hl : args.length ≤ 44) (hno : noTups args = true) (hk : ∀ id, look H id ≠ none → id < k)
    (hv : Holds C P 44 [] k (FunPost C 44 k [.tmp 8, .tmp 9] r H') (vc C W b_sdone [] (start args H) lf)) : Fun C P F_sdone args H r H' := by
  refine fun_of (W := W) ctx mixed (fn := Proofs.Try.f29) (c := b_sdone) Proofs.Try.func29 (by kernel_rfl) (by kernel_rfl) (by kernel_rfl) (by rw [hW]; kernel_rfl) (by rw [hW]; exact hl) hno k hk ?_
  rw [hW, show Proofs.Try.f29.results.toList = [.tmp 8, .tmp 9] by kernel_rfl]
  exact hv
abbrev F_q1 : Nat := 30
noncomputable def b_q1 : Code := Proofs.Try.f30.body.getD .skip
theorem in_q1 {W : Way} (hW : W.nt = 15) {args : List AV} {H : List (Nat × Blk)} {r : AV} {H' : List (Nat × Blk)} (k : Nat) (hl : args.length ≤ 15) (hno : noTups args = true) (hk : ∀ id, look H id ≠ none → id < k)
    (hv : Holds C P 15 [] k (FunPost C 15 k [.tmp 2] r H') (vc C W b_q1 [] (start args H) lf)) : Fun C P F_q1 args H r H' := by
  refine fun_of (W := W) ctx mixed (fn := Proofs.Try.f30) (c := b_q1) Proofs.Try.func30 (by kernel_rfl) (by kernel_rfl) (by kernel_rfl) (by rw [hW]; kernel_rfl) (by rw [hW]; exact hl) hno k hk ?_
  rw [hW, show Proofs.Try.f30.results.toList = [.tmp 2] by kernel_rfl]
  exact hv
abbrev F_q2 : Nat := 31
noncomputable def b_q2 : Code := Proofs.Try.f31.body.getD .skip
theorem in_q2 {W : Way} (hW : W.nt = 15) {args : List AV} {H : List (Nat × Blk)} {r : AV} {H' : List (Nat × Blk)} (k : Nat) (hl : args.length ≤ 15) (hno : noTups args = true) (hk : ∀ id, look H id ≠ none → id < k)
    (hv : Holds C P 15 [] k (FunPost C 15 k [.tmp 2] r H') (vc C W b_q2 [] (start args H) lf)) : Fun C P F_q2 args H r H' := by
  refine fun_of (W := W) ctx mixed (fn := Proofs.Try.f31) (c := b_q2) Proofs.Try.func31 (by kernel_rfl) (by kernel_rfl) (by kernel_rfl) (by rw [hW]; kernel_rfl) (by rw [hW]; exact hl) hno k hk ?_
  rw [hW, show Proofs.Try.f31.results.toList = [.tmp 2] by kernel_rfl]
  exact hv
abbrev F_eqS : Nat := 32
noncomputable def b_eqS : Code := Proofs.Try.f32.body.getD .skip
abbrev l_eqS_0 : List Nat := [1, 1, 0, 1, 0]
theorem in_eqS {W : Way} (hW : W.nt = 26) {args : List AV} {H : List (Nat × Blk)} {r : AV} {H' : List (Nat × Blk)} (k : Nat) (hl : args.length ≤ 26) (hno : noTups args = true) (hk : ∀ id, look H id ≠ none → id < k)
    (hv : Holds C P 26 [] k (FunPost C 26 k [.tmp 4] r H') (vc C W b_eqS [] (start args H) lf)) : Fun C P F_eqS args H r H' := by
  refine fun_of (W := W) ctx mixed (fn := Proofs.Try.f32) (c := b_eqS) Proofs.Try.func32 (by kernel_rfl) (by kernel_rfl) (by kernel_rfl) (by rw [hW]; kernel_rfl) (by rw [hW]; exact hl) hno k hk ?_
  rw [hW, show Proofs.Try.f32.results.toList = [.tmp 4] by kernel_rfl]
  exact hv
abbrev F_eqP : Nat := 33
noncomputable def b_eqP : Code := Proofs.Try.f33.body.getD .skip
abbrev l_eqP_0 : List Nat := [1, 1, 0, 1, 0]
theorem in_eqP {W : Way} (hW : W.nt = 26) {args : List AV} {H : List (Nat × Blk)} {r : AV} {H' : List (Nat × Blk)} (k : Nat) (hl : args.length ≤ 26) (hno : noTups args = true) (hk : ∀ id, look H id ≠ none → id < k)
    (hv : Holds C P 26 [] k (FunPost C 26 k [.tmp 4] r H') (vc C W b_eqP [] (start args H) lf)) : Fun C P F_eqP args H r H' := by
  refine fun_of (W := W) ctx mixed (fn := Proofs.Try.f33) (c := b_eqP) Proofs.Try.func33 (by kernel_rfl) (by kernel_rfl) (by kernel_rfl) (by rw [hW]; kernel_rfl) (by rw [hW]; exact hl) hno k hk ?_
  rw [hW, show Proofs.Try.f33.results.toList = [.tmp 4] by kernel_rfl]
  exact hv
abbrev F_q3 : Nat := 34
noncomputable def b_q3 : Code := Proofs.Try.f34.body.getD .skip
theorem in_q3 {W : Way} (hW : W.nt = 22) {args : List AV} {H : List (Nat × Blk)} {r : AV} {H' : List (Nat × Blk)} (k : Nat) (hl : args.length ≤ 22) (hno : noTups args = true) (hk : ∀ id, look H id ≠ none → id < k)
    (hv : Holds C P 22 [] k (FunPost C 22 k [.tmp 2] r H') (vc C W b_q3 [] (start args H) lf)) : Fun C P F_q3 args H r H' := by
  refine fun_of (W := W) ctx mixed (fn := Proofs.Try.f34) (c := b_q3) Proofs.Try.func34 (by kernel_rfl) (by kernel_rfl) (by kernel_rfl) (by rw [hW]; kernel_rfl) (by rw [hW]; exact hl) hno k hk ?_
  rw [hW, show Proofs.Try.f34.results.toList = [.tmp 2] by kernel_rfl]
  exact hv
abbrev F_q4 : Nat := 35
noncomputable def b_q4 : Code := Proofs.Try.f35.body.getD .skip
theorem in_q4 {W : Way} (hW : W.nt = 15) {args : List AV} {H : List (Nat × Blk)} {r : AV} {H' : List (Nat × Blk)} (k : Nat) (hl : args.length ≤ 15) (hno : noTups args = true) (hk : ∀ id, look H id ≠ none → id < k)
    (hv : Holds C P 15 [] k (FunPost C 15 k [.tmp 2] r H') (vc C W b_q4 [] (start args H) lf)) : Fun C P F_q4 args H r H' := by
  refine fun_of (W := W) ctx mixed (fn := Proofs.Try.f35) (c := b_q4) Proofs.Try.func35 (by kernel_rfl) (by kernel_rfl) (by kernel_rfl) (by rw [hW]; kernel_rfl) (by rw [hW]; exact hl) hno k hk ?_
  rw [hW, show Proofs.Try.f35.results.toList = [.tmp 2] by kernel_rfl]
  exact hv
abbrev F_q5 : Nat := 36
noncomputable def b_q5 : Code := Proofs.Try.f36.body.getD .skip
theorem in_q5 {W : Way} (hW : W.nt = 15) {args : List AV} {H : List (Nat × Blk)} {r : AV} {H' : List (Nat × Blk)} (k : Nat) (hl : args.length ≤ 15) (hno : noTups args = true) (hk : ∀ id, look H id ≠ none → id < k)
    (hv : Holds C P 15 [] k (FunPost C 15 k [.tmp 2] r H') (vc C W b_q5 [] (start args H) lf)) : Fun C P F_q5 args H r H' := by
  refine fun_of (W := W) ctx mixed (fn := Proofs.Try.f36) (c := b_q5) Proofs.Try.func36 (by kernel_rfl) (by kernel_rfl) (by kernel_rfl) (by rw [hW]; kernel_rfl) (by rw [hW]; exact hl) hno k hk ?_
  rw [hW, show Proofs.Try.f36.results.toList = [.tmp 2] by kernel_rfl]
  exact hv
abbrev F_eqA : Nat := 37
noncomputable def b_eqA : Code := Proofs.Try.f37.body.getD .skip
abbrev l_eqA_0 : List Nat := [1, 1, 0, 1, 0]
theorem in_eqA {W : Way} (hW : W.nt = 26) {args : List AV} {H : List (Nat × Blk)} {r : AV} {H' : List (Nat × Blk)} (k : Nat) (hl : args.length ≤ 26) (hno : noTups args = true) (hk : ∀ id, look H id ≠ none → id < k)
    (hv : Holds C P 26 [] k (FunPost C 26 k [.tmp 4] r H') (vc C W b_eqA [] (start args H) lf)) : Fun C P F_eqA args H r H' := by
  refine fun_of (W := W) ctx mixed (fn := Proofs.Try.f37) (c := b_eqA) Proofs.Try.func37 (by kernel_rfl) (by kernel_rfl) (by kernel_rfl) (by rw [hW]; kernel_rfl) (by rw [hW]; exact hl) hno k hk ?_
  rw [hW, show Proofs.Try.f37.results.toList = [.tmp 4] by kernel_rfl]
  exact hv
abbrev F_eqE : Nat := 38
noncomputable def b_eqE : Code := Proofs.Try.f38.body.getD .skip
abbrev l_eqE_0 : List Nat := [1, 1, 0, 1, 0]
theorem in_eqE {W : Way} (hW : W.nt = 26) {args : List AV} {H : List (Nat × Blk)} {r : AV} {H' : List (Nat × Blk)} (k : Nat) (hl : args.length ≤ 26) (hno : noTups args = true) (hk : ∀ id, look H id ≠ none → id < k)
    (hv : Holds C P 26 [] k (FunPost C 26 k [.tmp 4] r H') (vc C W b_eqE [] (start args H) lf)) : Fun C P F_eqE args H r H' := by
  refine fun_of (W := W) ctx mixed (fn := Proofs.Try.f38) (c := b_eqE) Proofs.Try.func38 (by kernel_rfl) (by kernel_rfl) (by kernel_rfl) (by rw [hW]; kernel_rfl) (by rw [hW]; exact hl) hno k hk ?_
  rw [hW, show Proofs.Try.f38.results.toList = [.tmp 4] by kernel_rfl]
  exact hv
abbrev F_q6 : Nat := 39
noncomputable def b_q6 : Code := Proofs.Try.f39.body.getD .skip
theorem in_q6 {W : Way} (hW : W.nt = 8) {args : List AV} {H : List (Nat × Blk)} {r : AV} {H' : List (Nat × Blk)} (k : Nat) (hl : args.length ≤ 8) (hno : noTups args = true) (hk : ∀ id, look H id ≠ none → id < k)
    (hv : Holds C P 8 [] k (FunPost C 8 k [.tmp 2] r H') (vc C W b_q6 [] (start args H) lf)) : Fun C P F_q6 args H r H' := by
  refine fun_of (W := W) ctx mixed (fn := Proofs.Try.f39) (c := b_q6) Proofs.Try.func39 (by kernel_rfl) (by kernel_rfl) (by kernel_rfl) (by rw [hW]; kernel_rfl) (by rw [hW]; exact hl) hno k hk ?_
  rw [hW, show Proofs.Try.f39.results.toList = [.tmp 2] by kernel_rfl]
  exact hv
abbrev F_contF : Nat := 40
noncomputable def b_contF : Code := Proofs.Try.f40.body.getD .skip
theorem in_contF {W : Way} (hW : W.nt = 9) {args : List AV} {H : List (Nat × Blk)} {r : AV} {H' : List (Nat × Blk)} (k : Nat) (hl : args.length ≤ 9) (hno : noTups args = true) (hk : ∀ id, look H id ≠ none → id < k)
    (hv : Holds C P 9 [] k (FunPost C 9 k [.tmp 4] r H') (vc C W b_contF [] (start args H) lf)) : Fun C P F_contF args H r H' := by
  refine fun_of (W := W) ctx mixed (fn := Proofs.Try.f40) (c := b_contF) Proofs.Try.func40 (by kernel_rfl) (by kernel_rfl) (by kernel_rfl) (by rw [hW]; kernel_rfl) (by rw [hW]; exact hl) hno k hk ?_
  rw [hW, show Proofs.Try.f40.results.toList = [.tmp 4] by kernel_rfl]
  exact hv
abbrev F_q7 : Nat := 41
noncomputable def b_q7 : Code := Proofs.Try.f41.body.getD .skip
theorem in_q7 {W : Way} (hW : W.nt = 6) {args : List AV} {H : List (Nat × Blk)} {r : AV} {H' : List (Nat × Blk)} (k : Nat) (hl : args.length ≤ 6) (hno : noTups args = true) (hk : ∀ id, look H id ≠ none → id < k)
    (hv : Holds C P 6 [] k (FunPost C 6 k [.tmp 2] r H') (vc C W b_q7 [] (start args H) lf)) : Fun C P F_q7 args H r H' := by
  refine fun_of (W := W) ctx mixed (fn := Proofs.Try.f41) (c := b_q7) Proofs.Try.func41 (by kernel_rfl) (by kernel_rfl) (by kernel_rfl) (by rw [hW]; kernel_rfl) (by rw [hW]; exact hl) hno k hk ?_
  rw [hW, show Proofs.Try.f41.results.toList = [.tmp 2] by kernel_rfl]
  exact hv
abbrev F_rsame : Nat := 42
noncomputable def b_rsame : Code := Proofs.Try.f42.body.getD .skip
abbrev l_rsame_0 : List Nat := [1, 1, 0, 1, 0]
theorem in_rsame {W : Way} (hW : W.nt = 55) {args : List AV} {H : List (Nat × Blk)} {r : AV} {H' : List (Nat × Blk)} (k : Nat) (hl : args.length ≤ 55) (hno : noTups args = true) (hk : ∀ id, look H id ≠ none → id < k)
    (hv : Holds C P 55 [] k (FunPost C 55 k [.tmp 4] r H') (vc C W b_rsame [] (start args H) lf)) : Fun C P F_rsame args H r H' := by
  refine fun_of (W := W) ctx mixed (fn := Proofs.Try.f42) (c := b_rsame) Proofs.Try.func42 (by kernel_rfl) (by kernel_rfl) (by kernel_rfl) (by rw [hW]; kernel_rfl) (by rw [hW]; exact hl) hno k hk ?_
  rw [hW, show Proofs.Try.f42.results.toList = [.tmp 4] by kernel_rfl]
  exact hv
abbrev F_send : Nat := 43
noncomputable def b_send : Code := Proofs.Try.f43.body.getD .skip
theorem in_send {W : Way} (hW : W.nt = 26) {args : List AV} {H : List (Nat × Blk)} {r : AV} {H' : List (Nat × Blk)} (k : Nat) (hl : args.length ≤ 26) (hno : noTups args = true) (hk : ∀ id, look H id ≠ none → id < k)
    (hv : Holds C P 26 [] k (FunPost C 26 k [.tmp 4, .tmp 5] r H') (vc C W b_send [] (start args H) lf)) : Fun C P F_send args H r H' := by
  refine fun_of (W := W) ctx mixed (fn := Proofs.Try.f43) (c := b_send) Proofs.Try.func43 (by kernel_rfl) (by kernel_rfl) (by kernel_rfl) (by rw [hW]; kernel_rfl) (by rw [hW]; exact hl) hno k hk ?_
  rw [hW, show Proofs.Try.f43.results.toList = [.tmp 4, .tmp 5] by kernel_rfl]
  exact hv
abbrev F_at : Nat := 44
noncomputable def b_at : Code := Proofs.Try.f44.body.getD .skip
theorem in_at {W : Way} (hW : W.nt = 11) {args : List AV} {H : List (Nat × Blk)} {r : AV} {H' : List (Nat × Blk)} (k : Nat) (hl : args.length ≤ 11) (hno : noTups args = true) (hk : ∀ id, look H id ≠ none → id < k)
    (hv : Holds C P 11 [] k (FunPost C 11 k [.tmp 4, .tmp 5] r H') (vc C W b_at [] (start args H) lf)) : Fun C P F_at args H r H' := by
  refine fun_of (W := W) ctx mixed (fn := Proofs.Try.f44) (c := b_at) Proofs.Try.func44 (by kernel_rfl) (by kernel_rfl) (by kernel_rfl) (by rw [hW]; kernel_rfl) (by rw [hW]; exact hl) hno k hk ?_
  rw [hW, show Proofs.Try.f44.results.toList = [.tmp 4, .tmp 5] by kernel_rfl]
  exact hv
abbrev F_insS : Nat := 45
noncomputable def b_insS : Code := Proofs.Try.f45.body.getD .skip
theorem in_insS {W : Way} (hW : W.nt = 95) {args : List AV} {H : List (Nat × Blk)} {r : AV} {H' : List (Nat × Blk)} (k : Nat) (hl : args.length ≤ 95) (hno : noTups args = true) (hk : ∀ id, look H id ≠ none → id < k)
    (hv : Holds C P 95 [] k (FunPost C 95 k [.tmp 6] r H') (vc C W b_insS [] (start args H) lf)) : Fun C P F_insS args H r H' := by
  refine fun_of (W := W) ctx mixed (fn := Proofs.Try.f45) (c := b_insS) Proofs.Try.func45 (by kernel_rfl) (by kernel_rfl) (by kernel_rfl) (by rw [hW]; kernel_rfl) (by rw [hW]; exact hl) hno k hk ?_
  rw [hW, show Proofs.Try.f45.results.toList = [.tmp 6] by kernel_rfl]
  exact hv
abbrev F_cloneS : Nat := 46
noncomputable def b_cloneS : Code := Proofs.Try.f46.body.getD .skip
theorem in_cloneS {W : Way} (hW : W.nt = 8) {args : List AV} {H : List (Nat × Blk)} {r : AV} {H' : List (Nat × Blk)} (k : Nat) (hl : args.length ≤ 8) (hno : noTups args = true) (hk : ∀ id, look H id ≠ none → id < k)
    (hv : Holds C P 8 [] k (FunPost C 8 k [.tmp 2] r H') (vc C W b_cloneS [] (start args H) lf)) : Fun C P F_cloneS args H r H' := by
  refine fun_of (W := W) ctx mixed (fn := Proofs.Try.f46) (c := b_cloneS) Proofs.Try.func46 (by kernel_rfl) (by kernel_rfl) (by kernel_rfl) (by rw [hW]; kernel_rfl) (by rw [hW]; exact hl) hno k hk ?_
  rw [hW, show Proofs.Try.f46.results.toList = [.tmp 2] by kernel_rfl]
  exact hv
abbrev F_rNm : Nat := 47
noncomputable def b_rNm : Code := Proofs.Try.f47.body.getD .skip
abbrev l_rNm_0 : List Nat := [1, 1, 0, 1, 0]
theorem in_rNm {W : Way} (hW : W.nt = 26) {args : List AV} {H : List (Nat × Blk)} {r : AV} {H' : List (Nat × Blk)} (k : Nat) (hl : args.length ≤ 26) (hno : noTups args = true) (hk : ∀ id, look H id ≠ none → id < k)
    (hv : Holds C P 26 [] k (FunPost C 26 k [.tmp 4] r H') (vc C W b_rNm [] (start args H) lf)) : Fun C P F_rNm args H r H' := by
  refine fun_of (W := W) ctx mixed (fn := Proofs.Try.f47) (c := b_rNm) Proofs.Try.func47 (by kernel_rfl) (by kernel_rfl) (by kernel_rfl) (by rw [hW]; kernel_rfl) (by rw [hW]; exact hl) hno k hk ?_
  rw [hW, show Proofs.Try.f47.results.toList = [.tmp 4] by kernel_rfl]
  exact hv
abbrev F_rBd : Nat := 48
noncomputable def b_rBd : Code := Proofs.Try.f48.body.getD .skip
abbrev l_rBd_0 : List Nat := [1, 1, 0, 1, 0]
theorem in_rBd {W : Way} (hW : W.nt = 26) {args : List AV} {H : List (Nat × Blk)} {r : AV} {H' : List (Nat × Blk)} (k : Nat) (hl : args.length ≤ 26) (hno : noTups args = true) (hk : ∀ id, look H id ≠ none → id < k)
    (hv : Holds C P 26 [] k (FunPost C 26 k [.tmp 4] r H') (vc C W b_rBd [] (start args H) lf)) : Fun C P F_rBd args H r H' := by
  refine fun_of (W := W) ctx mixed (fn := Proofs.Try.f48) (c := b_rBd) Proofs.Try.func48 (by kernel_rfl) (by kernel_rfl) (by kernel_rfl) (by rw [hW]; kernel_rfl) (by rw [hW]; exact hl) hno k hk ?_
  rw [hW, show Proofs.Try.f48.results.toList = [.tmp 4] by kernel_rfl]
  exact hv
abbrev F_rNd : Nat := 49
noncomputable def b_rNd : Code := Proofs.Try.f49.body.getD .skip
theorem in_rNd {W : Way} (hW : W.nt = 59) {args : List AV} {H : List (Nat × Blk)} {r : AV} {H' : List (Nat × Blk)} (k : Nat) (hl : args.length ≤ 59) (hno : noTups args = true) (hk : ∀ id, look H id ≠ none → id < k)
    (hv : Holds C P 59 [] k (FunPost C 59 k [.tmp 4] r H') (vc C W b_rNd [] (start args H) lf)) : Fun C P F_rNd args H r H' := by
  refine fun_of (W := W) ctx mixed (fn := Proofs.Try.f49) (c := b_rNd) Proofs.Try.func49 (by kernel_rfl) (by kernel_rfl) (by kernel_rfl) (by rw [hW]; kernel_rfl) (by rw [hW]; exact hl) hno k hk ?_
  rw [hW, show Proofs.Try.f49.results.toList = [.tmp 4] by kernel_rfl]
  exact hv
abbrev F_idxF : Nat := 50
noncomputable def b_idxF : Code := Proofs.Try.f50.body.getD .skip
abbrev l_idxF_0 : List Nat := [1, 0, 1, 0]
theorem in_idxF {W : Way} (hW : W.nt = 19) {args : List AV} {H : List (Nat × Blk)} {r : AV} {H' : List (Nat × Blk)} (k : Nat) (hl : args.length ≤ 19) (hno : noTups args = true) (hk : ∀ id, look H id ≠ none → id < k)
    (hv : Holds C P 19 [] k (FunPost C 19 k [.tmp 4] r H') (vc C W b_idxF [] (start args H) lf)) : Fun C P F_idxF args H r H' := by
  refine fun_of (W := W) ctx mixed (fn := Proofs.Try.f50) (c := b_idxF) Proofs.Try.func50 (by kernel_rfl) (by kernel_rfl) (by kernel_rfl) (by rw [hW]; kernel_rfl) (by rw [hW]; exact hl) hno k hk ?_
  rw [hW, show Proofs.Try.f50.results.toList = [.tmp 4] by kernel_rfl]
  exact hv
abbrev F_concS : Nat := 51
noncomputable def b_concS : Code := Proofs.Try.f51.body.getD .skip
abbrev l_concS_0 : List Nat := [1, 1, 0, 1, 0]
abbrev l_concS_1 : List Nat := [1, 1, 1, 1, 0, 1, 0]
theorem in_concS {W : Way} (hW : W.nt = 36) {args : List AV} {H : List (Nat × Blk)} {r : AV} {H' : List (Nat × Blk)} (k : Nat) (hl : args.length ≤ 36) (hno : noTups args = true) (hk : ∀ id, look H id ≠ none → id < k)
    (hv : Holds C P 36 [] k (FunPost C 36 k [.tmp 2] r H') (vc C W b_concS [] (start args H) lf)) : Fun C P F_concS args H r H' := by
  refine fun_of (W := W) ctx mixed (fn := Proofs.Try.f51) (c := b_concS) Proofs.Try.func51 (by kernel_rfl) (by kernel_rfl) (by kernel_rfl) (by rw [hW]; kernel_rfl) (by rw [hW]; exact hl) hno k hk ?_
  rw [hW, show Proofs.Try.f51.results.toList = [.tmp 2] by kernel_rfl]
  exact hv
abbrev F_findS : Nat := 52
noncomputable def b_findS : Code := Proofs.Try.f52.body.getD .skip
theorem in_findS {W : Way} (hW : W.nt = 14) {args : List AV} {H : List (Nat × Blk)} {r : AV} {H' : List (Nat × Blk)} (k : Nat) (hl : args.length ≤ 14) (hno : noTups args = true) (hk : ∀ id, look H id ≠ none → id < k)
    (hv : Holds C P 14 [] k (FunPost C 14 k [.tmp 6, .tmp 7] r H') (vc C W b_findS [] (start args H) lf)) : Fun C P F_findS args H r H' := by
  refine fun_of (W := W) ctx mixed (fn := Proofs.Try.f52) (c := b_findS) Proofs.Try.func52 (by kernel_rfl) (by kernel_rfl) (by kernel_rfl) (by rw [hW]; kernel_rfl) (by rw [hW]; exact hl) hno k hk ?_
  rw [hW, show Proofs.Try.f52.results.toList = [.tmp 6, .tmp 7] by kernel_rfl]
  exact hv
abbrev F_at1 : Nat := 53
noncomputable def b_at1 : Code := Proofs.Try.f53.body.getD .skip
theorem in_at1 {W : Way} (hW : W.nt = 5) {args : List AV} {H : List (Nat × Blk)} {r : AV} {H' : List (Nat × Blk)} (k : Nat) (hl : args.length ≤ 5) (hno : noTups args = true) (hk : ∀ id, look H id ≠ none → id < k)
    (hv : Holds C P 5 [] k (FunPost C 5 k [.tmp 2] r H') (vc C W b_at1 [] (start args H) lf)) : Fun C P F_at1 args H r H' := by
  refine fun_of (W := W) ctx mixed (fn := Proofs.Try.f53) (c := b_at1) Proofs.Try.func53 (by kernel_rfl) (by kernel_rfl) (by kernel_rfl) (by rw [hW]; kernel_rfl) (by rw [hW]; exact hl) hno k hk ?_
  rw [hW, show Proofs.Try.f53.results.toList = [.tmp 2] by kernel_rfl]
  exact hv
abbrev F_rAc : Nat := 56
noncomputable def b_rAc : Code := Proofs.Try.f56.body.getD .skip
abbrev l_rAc_0 : List Nat := [1, 1, 0, 1, 0]
theorem in_rAc {W : Way} (hW : W.nt = 26) {args : List AV} {H : List (Nat × Blk)} {r : AV} {H' : List (Nat × Blk)} (k : Nat) (hl : args.length ≤ 26) (hno : noTups args = true) (hk : ∀ id, look H id ≠ none → id < k)
    (hv : Holds C P 26 [] k (FunPost C 26 k [.tmp 4] r H') (vc C W b_rAc [] (start args H) lf)) : Fun C P F_rAc args H r H' := by
  refine fun_of (W := W) ctx mixed (fn := Proofs.Try.f56) (c := b_rAc) Proofs.Try.func56 (by kernel_rfl) (by kernel_rfl) (by kernel_rfl) (by rw [hW]; kernel_rfl) (by rw [hW]; exact hl) hno k hk ?_
  rw [hW, show Proofs.Try.f56.results.toList = [.tmp 4] by kernel_rfl]
  exact hv
abbrev F_rLs : Nat := 57
noncomputable def b_rLs : Code := Proofs.Try.f57.body.getD .skip
abbrev l_rLs_0 : List Nat := [1, 1, 0, 1, 0]
theorem in_rLs {W : Way} (hW : W.nt = 26) {args : List AV} {H : List (Nat × Blk)} {r : AV} {H' : List (Nat × Blk)} (k : Nat) (hl : args.length ≤ 26) (hno : noTups args = true) (hk : ∀ id, look H id ≠ none → id < k)
    (hv : Holds C P 26 [] k (FunPost C 26 k [.tmp 4] r H') (vc C W b_rLs [] (start args H) lf)) : Fun C P F_rLs args H r H' := by
  refine fun_of (W := W) ctx mixed (fn := Proofs.Try.f57) (c := b_rLs) Proofs.Try.func57 (by kernel_rfl) (by kernel_rfl) (by kernel_rfl) (by rw [hW]; kernel_rfl) (by rw [hW]; exact hl) hno k hk ?_
  rw [hW, show Proofs.Try.f57.results.toList = [.tmp 4] by kernel_rfl]
  exact hv
abbrev F_growS : Nat := 58
noncomputable def b_growS : Code := Proofs.Try.f58.body.getD .skip
theorem in_growS {W : Way} (hW : W.nt = 27) {args : List AV} {H : List (Nat × Blk)} {r : AV} {H' : List (Nat × Blk)} (k : Nat) (hl : args.length ≤ 27) (hno : noTups args = true) (hk : ∀ id, look H id ≠ none → id < k)
    (hv : Holds C P 27 [] k (FunPost C 27 k [.tmp 4] r H') (vc C W b_growS [] (start args H) lf)) : Fun C P F_growS args H r H' := by
  refine fun_of (W := W) ctx mixed (fn := Proofs.Try.f58) (c := b_growS) Proofs.Try.func58 (by kernel_rfl) (by kernel_rfl) (by kernel_rfl) (by rw [hW]; kernel_rfl) (by rw [hW]; exact hl) hno k hk ?_
  rw [hW, show Proofs.Try.f58.results.toList = [.tmp 4] by kernel_rfl]
  exact hv
abbrev F_bsS : Nat := 59
noncomputable def b_bsS : Code := Proofs.Try.f59.body.getD .skip
abbrev l_bsS_0 : List Nat := [1, 1, 1, 0, 0]
theorem in_bsS {W : Way} (hW : W.nt = 49) {args : List AV} {H : List (Nat × Blk)} {r : AV} {H' : List (Nat × Blk)} (k : Nat) (hl : args.length ≤ 49) (hno : noTups args = true) (hk : ∀ id, look H id ≠ none → id < k)
    (hv : Holds C P 49 [] k (FunPost C 49 k [.tmp 6, .tmp 7] r H') (vc C W b_bsS [] (start args H) lf)) : Fun C P F_bsS args H r H' := by
  refine fun_of (W := W) ctx mixed (fn := Proofs.Try.f59) (c := b_bsS) Proofs.Try.func59 (by kernel_rfl) (by kernel_rfl) (by kernel_rfl) (by rw [hW]; kernel_rfl) (by rw [hW]; exact hl) hno k hk ?_
  rw [hW, show Proofs.Try.f59.results.toList = [.tmp 6, .tmp 7] by kernel_rfl]
  exact hv
abbrev F_find1 : Nat := 60
noncomputable def b_find1 : Code := Proofs.Try.f60.body.getD .skip
theorem in_find1 {W : Way} (hW : W.nt = 11) {args : List AV} {H : List (Nat × Blk)} {r : AV} {H' : List (Nat × Blk)} (k : Nat) (hl : args.length ≤ 11) (hno : noTups args = true) (hk : ∀ id, look H id ≠ none → id < k)
    (hv : Holds C P 11 [] k (FunPost C 11 k [.tmp 5] r H') (vc C W b_find1 [] (start args H) lf)) : Fun C P F_find1 args H r H' := by
  refine fun_of (W := W) ctx mixed (fn := Proofs.Try.f60) (c := b_find1) Proofs.Try.func60 (by kernel_rfl) (by kernel_rfl) (by kernel_rfl) (by rw [hW]; kernel_rfl) (by rw [hW]; exact hl) hno k hk ?_
  rw [hW, show Proofs.Try.f60.results.toList = [.tmp 5] by kernel_rfl]
  exact hv
abbrev F_cmpC : Nat := 61
noncomputable def b_cmpC : Code := Proofs.Try.f61.body.getD .skip
theorem in_cmpC {W : Way} (hW : W.nt = 20) {args : List AV} {H : List (Nat × Blk)} {r : AV} {H' : List (Nat × Blk)} (k : Nat) (hl : args.length ≤ 20) (hno : noTups args = true) (hk : ∀ id, look H id ≠ none → id < k)
    (hv : Holds C P 20 [] k (FunPost C 20 k [.tmp 4] r H') (vc C W b_cmpC [] (start args H) lf)) : Fun C P F_cmpC args H r H' := by
  refine fun_of (W := W) ctx mixed (fn := Proofs.Try.f61) (c := b_cmpC) Proofs.Try.func61 (by kernel_rfl) (by kernel_rfl) (by kernel_rfl) (by rw [hW]; kernel_rfl) (by rw [hW]; exact hl) hno k hk ?_
  rw [hW, show Proofs.Try.f61.results.toList = [.tmp 4] by kernel_rfl]
  exact hv
abbrev F_isnan : Nat := 63
noncomputable def b_isnan : Code := Proofs.Try.f63.body.getD .skip
theorem in_isnan {W : Way} (hW : W.nt = 6) {args : List AV} {H : List (Nat × Blk)} {r : AV} {H' : List (Nat × Blk)} (k : Nat) (hl : args.length ≤ 6) (hno : noTups args = true) (hk : ∀ id, look H id ≠ none → id < k)
    (hv : Holds C P 6 [] k (FunPost C 6 k [.tmp 2] r H') (vc C W b_isnan [] (start args H) lf)) : Fun C P F_isnan args H r H' := by
  refine fun_of (W := W) ctx mixed (fn := Proofs.Try.f63) (c := b_isnan) Proofs.Try.func63 (by kernel_rfl) (by kernel_rfl) (by kernel_rfl) (by rw [hW]; kernel_rfl) (by rw [hW]; exact hl) hno k hk ?_
  rw [hW, show Proofs.Try.f63.results.toList = [.tmp 2] by kernel_rfl]
  exact hv
end Go.Bu.W

namespace Go.Bu.W
abbrev Pc : Type := Int × Int × Int
abbrev Ac : Type := Int × Bool × Int × Int × Bool
abbrev En : Type := ByteArray × Int
structure Nd where
  id : Int
  kind : Int
  owner : Int
  acl : List Ac
  list : List En
  body : List Pc
  links : Int
  ver : Int
structure Rp where
  e : Int
  n : Int
  names : List ByteArray
  body : List Pc
  nd : Nd
structure Ses where
  who : Int
  seq : Int
  last : Rp
abbrev strA (s : ByteArray) : AV := .v (.string s)
abbrev pcA (p : Pc) : AV := .st [.i p.1, .i p.2.1, .i p.2.2]
abbrev acA (p : Ac) : AV := .st [.i p.1, .sb p.2.1, .i p.2.2.1, .i p.2.2.2.1, .sb p.2.2.2.2]
abbrev enA (p : En) : AV := .st [strA p.1, .i p.2]
def sAt (l : List ByteArray) (i : Nat) : ByteArray := l.getD i ByteArray.empty
abbrev pcAt (l : List Pc) (i : Nat) : Pc := l.getD i (0, 0, 0)
abbrev acAt (l : List Ac) (i : Nat) : Ac := l.getD i (0, false, 0, 0, false)
abbrev enAt (l : List En) (i : Nat) : En := l.getD i (ByteArray.empty, 0)
abbrev dS (ex : Bool) (l : List ByteArray) : AV := .dat l.length ex 1 (fun i => strA (sAt l i))
abbrev dPc (ex : Bool) (l : List Pc) : AV := .dat l.length ex 3 (fun i => pcA (pcAt l i))
abbrev dAc (ex : Bool) (l : List Ac) : AV := .dat l.length ex 5 (fun i => acA (acAt l i))
abbrev dEn (ex : Bool) (l : List En) : AV := .dat l.length ex 2 (fun i => enA (enAt l i))
abbrev ndA (n : Nd) : AV := .st [.i n.id, .i n.kind, .i n.owner, dAc false n.acl, dEn false n.list, dPc false n.body, .i n.links, .i n.ver]
abbrev rpA (r : Rp) : AV := .st [.i r.e, .i r.n, dS false r.names, dPc false r.body, ndA r.nd]
abbrev seA (s : Ses) : AV := .st [.i s.who, .i s.seq, rpA s.last]
def rp0 : Rp := ⟨0, 0, [], [], ⟨0, 0, 0, [], [], [], 0, 0⟩⟩
def se0 : Ses := ⟨0, 0, rp0⟩
def seAt (l : List Ses) (i : Nat) : Ses := l.getD i se0
abbrev dSe (ex : Bool) (l : List Ses) : AV := .dat l.length ex 14 (fun i => seA (seAt l i))
abbrev ShN : Prop := (((true = true) ∧ (true = true)) ∧ (((true = true) ∧ (true = true)) ∧ (((true = true) ∧ (true = true)) ∧ (((true = true) ∧ (true = true)) ∧ (((true = true) ∧ (true = true)) ∧ (((true = true) ∧ (true = true)) ∧ (((true = true) ∧ (true = true)) ∧ (((true = true) ∧ (true = true)) ∧ True))))))))
abbrev ShR : Prop := (((true = true) ∧ (true = true)) ∧ (((true = true) ∧ (true = true)) ∧ (((true = true) ∧ (true = true)) ∧ (((true = true) ∧ (true = true)) ∧ ((((true = true) ∧ (true = true)) ∧ (((true = true) ∧ (true = true)) ∧ (((true = true) ∧ (true = true)) ∧ (((true = true) ∧ (true = true)) ∧ (((true = true) ∧ (true = true)) ∧ (((true = true) ∧ (true = true)) ∧ (((true = true) ∧ (true = true)) ∧ (((true = true) ∧ (true = true)) ∧ True)))))))) ∧ True)))))
abbrev ShS : Prop := (((true = true) ∧ (true = true)) ∧ (((true = true) ∧ (true = true)) ∧ ((((true = true) ∧ (true = true)) ∧ (((true = true) ∧ (true = true)) ∧ (((true = true) ∧ (true = true)) ∧ (((true = true) ∧ (true = true)) ∧ ((((true = true) ∧ (true = true)) ∧ (((true = true) ∧ (true = true)) ∧ (((true = true) ∧ (true = true)) ∧ (((true = true) ∧ (true = true)) ∧ (((true = true) ∧ (true = true)) ∧ (((true = true) ∧ (true = true)) ∧ (((true = true) ∧ (true = true)) ∧ (((true = true) ∧ (true = true)) ∧ True)))))))) ∧ True))))) ∧ True)))
abbrev Sh2 : Prop := (((true = true) ∧ (true = true)) ∧ (((true = true) ∧ (true = true)) ∧ True))
abbrev ShK : Prop := ShR ∧ Sh2
theorem sh2_t : Sh2 := by simp [Sh2]
theorem shK_t : ShK := by simp [ShK, ShR, Sh2]
theorem shN_t : ShN := by simp [ShN]
theorem shR_t : ShR := by simp [ShR]
theorem shS_t : ShS := by simp [ShS]
abbrev zD : AV := .dat 0 true 0 (fun _ => .v (.tuple #[]))
abbrev rpZ : AV := .st [.i 0, .i 0, zD, zD, .st [.i 0, .i 0, .i 0, zD, zD, zD, .i 0, .i 0]]
abbrev seN (w : Int) : AV := .st [.i w, .i 0, rpZ]
abbrev seZ : AV := seN 0
def asS : AV → ByteArray
  | .v (.string s) => s
  | _ => ByteArray.empty
def toPc : AV → Pc
  | .st [a, b, c] => (asI a, asI b, asI c)
  | _ => (0, 0, 0)
def toAc : AV → Ac
  | .st [a, b, c, d, e] => (asI a, asB b, asI c, asI d, asB e)
  | _ => (0, false, 0, 0, false)
def toEn : AV → En
  | .st [a, b] => (asS a, asI b)
  | _ => (ByteArray.empty, 0)
def toL {α : Type} (h : AV → α) : AV → List α
  | .dat n _ _ f => (List.range n).map fun i => h (f i)
  | _ => []
def toNd : AV → Nd
  | .st [a, b, c, d, e, f, g, h] => ⟨asI a, asI b, asI c, toL toAc d, toL toEn e, toL toPc f, asI g, asI h⟩
  | _ => ⟨0, 0, 0, [], [], [], 0, 0⟩
def toRp : AV → Rp
  | .st [a, b, c, d, e] => ⟨asI a, asI b, toL asS c, toL toPc d, toNd e⟩
  | _ => rp0
def toSe : AV → Ses
  | .st [a, b, c] => ⟨asI a, asI b, toRp c⟩
  | _ => se0
def toLS : AV → List Ses := toL toSe
abbrev cW (who : Int) : Ses → Int := fun s => cmpI s.who who
def crCmp : List AV → Option (AV × List (Nat × Blk))
  | [a, b] => some (.i (cmpI (asI a) (asI b)), [])
  | _ => none
def crAt1 : List AV → Option (AV × List (Nat × Blk))
  | [.st (x :: _)] => some (x, [])
  | _ => none
def crFind1 : List AV → Option (AV × List (Nat × Blk))
  | [.st (x :: _), y, .pd (.fn (.func 53) [])] => some (.i (cmpI (asI x) (asI y)), [])
  | _ => none
def crBs : List AV → Option (AV × List (Nat × Blk))
  | x :: y :: _ => some (.tup [.i (bsI (cW (asI y)) (toLS x) : Nat), .sb (bsB (cW (asI y)) (toLS x))], [])
  | _ => none
def crN (g : Nat) (args : List AV) (_ : List (Nat × Blk)) : Option (AV × List (Nat × Blk)) :=
  sel (Nat.beq g F_isnan) (some (.v (.bool false), [])) <| sel (Nat.beq g F_cmpC) (crCmp args) <| sel (Nat.beq g F_at1) (crAt1 args) <| sel (Nat.beq g F_find1) (crFind1 args) <|
  sel (Nat.beq g F_bsS) (crBs args) <| sel (Nat.beq g F_findS) (crBs args) <| sel (Nat.beq g F_at) (crBs args) none
def wayN (keep : List Nat) (nt : Nat) (cuts : List Nat) : Way := ⟨crN, fun _ => false, keep, [], nt, cuts⟩
def w_isnan : Way := wayN [0, 2] 6 []
def w_cmpC : Way := wayN [0, 1, 4, 5, 6, 11, 12, 13, 16, 19] 20 []
def w_at1 : Way := wayN [0, 1, 2] 5 []
def w_find1 : Way := wayN [0, 1, 2, 3, 5] 11 []
def w_bsS : Way := wayN [0, 1, 2, 6, 7, 8, 9, 10, 11, 17, 31] 49 []
def w_findS : Way := wayN [0, 1, 2, 5, 6, 7] 14 []
def w_at : Way := wayN [0, 1, 4, 5] 11 []
abbrev fnF : AV := .fn (.func 60) [.pd (.fn (.func 53) [])]
def I_bs (ex : Bool) (l : List Ses) (x : Int) (s : Nat × Nat) : St := { tm := [(0, dSe ex l), (1, .i x), (2, fnF), (8, .i l.length), (9, .i s.1), (10, .i s.2)], hp := [], seen := [] }

theorem isnan_A (a : Int) (K : Nat) (Φ : Ex → St → Prop) :
  (Holds C P 6 [] K Φ (vc C w_isnan b_isnan [] (start [.i a] []) lf)) =
  (Φ Ex.ret (St.mk [(0, (AV.i a)), (2, (AV.sb (a != a)))] [] [])) := by kernel_rfl
theorem cmpC_A (a b : Int) (K : Nat) (Φ : Ex → St → Prop) :
  (Holds C P 20 [] K Φ (vc C w_cmpC b_cmpC [] (start [.i a, .i b] []) lf)) =
  (Fun W.C W.P 63 [(AV.i a)] [] (AV.v (Value.bool false)) [] ∧
 (True ∧
 (Fun W.C W.P 63 [(AV.i b)] [] (AV.v (Value.bool false)) [] ∧
 (True ∧
 (((decide (a < b)) = true →
 (Φ Ex.ret (St.mk [(0, (AV.i a)), (1, (AV.i b)), (4, (AV.i (-1 : Int))), (5, (AV.v (Value.bool false))), (6, (AV.v (Value.bool false))), (11, (AV.v (Value.bool false))), (13, (AV.v (Value.bool false))), (16, (AV.v (Value.bool true)))] [] []))) ∧
 ((decide (a < b)) = false →
 (((decide (a > b)) = true →
  (Φ Ex.ret (St.mk [(0, (AV.i a)), (1, (AV.i b)), (4, (AV.i (1 : Int))), (5, (AV.v (Value.bool false))), (6, (AV.v (Value.bool false))), (11, (AV.v (Value.bool false))), (13, (AV.v (Value.bool false))), (16, (AV.v (Value.bool false))), (19, (AV.v (Value.bool true)))] [] []))) ∧
  ((decide (a > b)) = false →
  (Φ Ex.ret (St.mk [(0, (AV.i a)), (1, (AV.i b)), (4, (AV.i (0 : Int))), (5, (AV.v (Value.bool false))), (6, (AV.v (Value.bool false))), (11, (AV.v (Value.bool false))), (13, (AV.v (Value.bool false))), (16, (AV.v (Value.bool false))), (19, (AV.v (Value.bool false)))] [] [])))))))))) := by kernel_rfl
theorem at1_A (s : Ses) (K : Nat) (Φ : Ex → St → Prop) :
  (Holds C P 5 [] K Φ (vc C w_at1 b_at1 [] (start [seA s] []) lf)) =
  (Φ Ex.ret (St.mk [(0, (W.seA s)), (1, (AV.ptr 1 [])), (2, (AV.i (W.Ses.who s)))] [(1, (Blk.c (W.seA s)))] [1])) := by kernel_rfl
theorem find1_A (s : Ses) (y : Int) (K : Nat) (Φ : Ex → St → Prop) :
  (Holds C P 11 [] K Φ (vc C w_find1 b_find1 [] (start [seA s, .i y, .pd (.fn (.func 53) [])] []) lf)) =
  (Fun W.C W.P (53 : FuncId) [(W.seA s)] [] (AV.i (W.Ses.who s)) [] ∧
 (True ∧
 (Fun W.C W.P 61 [(AV.i (W.Ses.who s)), (AV.i y)] [] (AV.i (cmpI (W.Ses.who s) y)) [] ∧
 (True ∧
 (Φ Ex.ret (St.mk [(0, (W.seA s)), (1, (AV.i y)), (2, (AV.pd (AV.fn (Fn.func (53 : FuncId)) []))), (3, (AV.ptr 3 [])), (5, (AV.i (cmpI (W.Ses.who s) y)))] [(3, (Blk.c (W.seA s)))] [3])))))) := by kernel_rfl
theorem bsS_A (ex : Bool) (l : List Ses) (x : Int) (K : Nat) (Φ : Ex → St → Prop) :
  (Holds C P 49 [] K Φ (vc C w_bsS b_bsS [] (start [dSe ex l, .i x, fnF] []) lf)) =
  (LoopOK W.C W.P 49 [] K (bodyAt b_bsS [1, 1, 1, 0, 0]) (St.mk [(0, (W.dSe ex l)), (1, (AV.i x)), (2, (AV.fn (Fn.func (60 : FuncId)) [(AV.pd (AV.fn (Fn.func (53 : FuncId)) []))])), (6, (AV.i (0 : Int))), (7, (AV.v (Value.bool false))), (8, (AV.i (((List.length l) : Nat) : Int))), (9, (AV.i (0 : Int))), (10, (AV.i (((List.length l) : Nat) : Int)))] [] []) (fun (e : Ex) (S' : St) => Holds W.C W.P 49 [] K Φ (after W.C w_bsS b_bsS [1, 1, 1, 0, 0] [] lf e S'))) := by kernel_rfl
noncomputable abbrev bd_bsS_0 : Code := bodyAt (b_bsS) [1, 1, 1, 0, 0]
theorem ok_bsS_0 : codeOK bd_bsS_0 = true := by kernel_rfl
noncomputable abbrev rest_bsS_0 (K : Nat) (Φ : Ex → St → Prop) : Ex → St → Prop := fun e S' => Holds C P 49 [] K Φ (after C w_bsS (b_bsS) [1, 1, 1, 0, 0] [] lf e S')
theorem bsS_L0 (ex : Bool) (l : List Ses) (x : Int) (s : Nat × Nat) (K : Nat) (Φ : Ex → St → Prop) :
  (Holds C P 49 [] K (RoundQ C 49 [] K (I_bs ex l x) (fun s => s.1 ≤ s.2 ∧ s.2 ≤ l.length ∧ (∀ k, k < s.1 → cmpI (seAt l k).who x < 0) ∧ ∀ k, s.2 ≤ k → k < l.length → 0 ≤ cmpI (seAt l k).who x) (fun s => s.2 - s.1) ((fun s => s.2 - s.1) (s)) (rest_bsS_0 K Φ)) (vc C w_bsS bd_bsS_0 [] ((I_bs ex l x) (s)) lf)) =
  (((decide ((((Prod.fst s) : Nat) : Int) < (((Prod.snd s) : Nat) : Int))) = true →
 ((I64 ((((Prod.fst s) + (Prod.snd s)) : Nat) : Int)) ∧
  (((0 : Int) ≤ (1 : Int)) ∧
  ((I64 (bShr IntKind.u64 (IntKind.wrap IntKind.u64 ((((Prod.fst s) + (Prod.snd s)) : Nat) : Int)) (1 : Int))) ∧
  ((((0 : Int) ≤ (bShr IntKind.u64 (IntKind.wrap IntKind.u64 ((((Prod.fst s) + (Prod.snd s)) : Nat) : Int)) (1 : Int))) ∧ ((bShr IntKind.u64 (IntKind.wrap IntKind.u64 ((((Prod.fst s) + (Prod.snd s)) : Nat) : Int)) (1 : Int)) < (((List.length l) : Nat) : Int))) ∧
  (Fun W.C W.P (60 : FuncId) [(W.seA (W.seAt l (Int.toNat (bShr IntKind.u64 (IntKind.wrap IntKind.u64 ((((Prod.fst s) + (Prod.snd s)) : Nat) : Int)) (1 : Int))))), (AV.i x), (AV.pd (AV.fn (Fn.func (53 : FuncId)) []))] [] (AV.i (cmpI (W.Ses.who (W.seAt l (Int.toNat (bShr IntKind.u64 (IntKind.wrap IntKind.u64 ((((Prod.fst s) + (Prod.snd s)) : Nat) : Int)) (1 : Int))))) x)) [] ∧
  (True ∧
  (((decide ((cmpI (W.Ses.who (W.seAt l (Int.toNat (bShr IntKind.u64 (IntKind.wrap IntKind.u64 ((((Prod.fst s) + (Prod.snd s)) : Nat) : Int)) (1 : Int))))) x) < (0 : Int))) = true →
  ((I64 ((bShr IntKind.u64 (IntKind.wrap IntKind.u64 ((((Prod.fst s) + (Prod.snd s)) : Nat) : Int)) (1 : Int)) + (1 : Int))) ∧
   ((RoundQ C 49 [] K (I_bs ex l x) (fun s => s.1 ≤ s.2 ∧ s.2 ≤ l.length ∧ (∀ k, k < s.1 → cmpI (seAt l k).who x < 0) ∧ ∀ k, s.2 ≤ k → k < l.length → 0 ≤ cmpI (seAt l k).who x) (fun s => s.2 - s.1) ((fun s => s.2 - s.1) (s)) (rest_bsS_0 K Φ)) Ex.normal (St.mk [(0, (W.dSe ex l)), (1, (AV.i x)), (2, (AV.fn (Fn.func (60 : FuncId)) [(AV.pd (AV.fn (Fn.func (53 : FuncId)) []))])), (8, (AV.i (((List.length l) : Nat) : Int))), (9, (AV.i ((bShr IntKind.u64 (IntKind.wrap IntKind.u64 ((((Prod.fst s) + (Prod.snd s)) : Nat) : Int)) (1 : Int)) + (1 : Int)))), (10, (AV.i (((Prod.snd s) : Nat) : Int))), (11, (AV.i (bShr IntKind.u64 (IntKind.wrap IntKind.u64 ((((Prod.fst s) + (Prod.snd s)) : Nat) : Int)) (1 : Int)))), (17, (AV.v (Value.bool true))), (31, (AV.v (Value.bool true)))] [] [])))) ∧
  ((decide ((cmpI (W.Ses.who (W.seAt l (Int.toNat (bShr IntKind.u64 (IntKind.wrap IntKind.u64 ((((Prod.fst s) + (Prod.snd s)) : Nat) : Int)) (1 : Int))))) x) < (0 : Int))) = false →
  ((RoundQ C 49 [] K (I_bs ex l x) (fun s => s.1 ≤ s.2 ∧ s.2 ≤ l.length ∧ (∀ k, k < s.1 → cmpI (seAt l k).who x < 0) ∧ ∀ k, s.2 ≤ k → k < l.length → 0 ≤ cmpI (seAt l k).who x) (fun s => s.2 - s.1) ((fun s => s.2 - s.1) (s)) (rest_bsS_0 K Φ)) Ex.normal (St.mk [(0, (W.dSe ex l)), (1, (AV.i x)), (2, (AV.fn (Fn.func (60 : FuncId)) [(AV.pd (AV.fn (Fn.func (53 : FuncId)) []))])), (8, (AV.i (((List.length l) : Nat) : Int))), (9, (AV.i (((Prod.fst s) : Nat) : Int))), (10, (AV.i (bShr IntKind.u64 (IntKind.wrap IntKind.u64 ((((Prod.fst s) + (Prod.snd s)) : Nat) : Int)) (1 : Int)))), (11, (AV.i (bShr IntKind.u64 (IntKind.wrap IntKind.u64 ((((Prod.fst s) + (Prod.snd s)) : Nat) : Int)) (1 : Int)))), (17, (AV.v (Value.bool true))), (31, (AV.v (Value.bool false)))] [] []))))))))))) ∧
 ((decide ((((Prod.fst s) : Nat) : Int) < (((Prod.snd s) : Nat) : Int))) = false →
 (((decide ((((Prod.fst s) : Nat) : Int) < (((List.length l) : Nat) : Int))) = true →
  ((((0 : Int) ≤ (((Prod.fst s) : Nat) : Int)) ∧ ((((Prod.fst s) : Nat) : Int) < (((List.length l) : Nat) : Int))) ∧
   (Fun W.C W.P (60 : FuncId) [(W.seA (W.seAt l (Prod.fst s))), (AV.i x), (AV.pd (AV.fn (Fn.func (53 : FuncId)) []))] [] (AV.i (cmpI (W.Ses.who (W.seAt l (Prod.fst s))) x)) [] ∧
   (True ∧
   (Φ Ex.ret (St.mk [(0, (W.dSe ex l)), (1, (AV.i x)), (2, (AV.fn (Fn.func (60 : FuncId)) [(AV.pd (AV.fn (Fn.func (53 : FuncId)) []))])), (6, (AV.i (((Prod.fst s) : Nat) : Int))), (7, (AV.sb ((cmpI (W.Ses.who (W.seAt l (Prod.fst s))) x) == (0 : Int)))), (8, (AV.i (((List.length l) : Nat) : Int))), (9, (AV.i (((Prod.fst s) : Nat) : Int))), (10, (AV.i (((Prod.snd s) : Nat) : Int))), (17, (AV.v (Value.bool false)))] [] [])))))) ∧
  ((decide ((((Prod.fst s) : Nat) : Int) < (((List.length l) : Nat) : Int))) = false →
  (Φ Ex.ret (St.mk [(0, (W.dSe ex l)), (1, (AV.i x)), (2, (AV.fn (Fn.func (60 : FuncId)) [(AV.pd (AV.fn (Fn.func (53 : FuncId)) []))])), (6, (AV.i (((Prod.fst s) : Nat) : Int))), (7, (AV.v (Value.bool false))), (8, (AV.i (((List.length l) : Nat) : Int))), (9, (AV.i (((Prod.fst s) : Nat) : Int))), (10, (AV.i (((Prod.snd s) : Nat) : Int))), (17, (AV.v (Value.bool false)))] [] [])))))) := by kernel_rfl
theorem findS_A (ex : Bool) (l : List Ses) (x : Int) (K : Nat) (Φ : Ex → St → Prop) :
  (Holds C P 14 [] K Φ (vc C w_findS b_findS [] (start [dSe ex l, .i x, .fn (.func 53) []] []) lf)) =
  (Fun W.C W.P 59 [(W.dSe ex l), (AV.i x), (AV.fn (Fn.func 60) [(AV.pd (AV.fn (Fn.func (53 : FuncId)) []))])] [] (AV.tup [(AV.i (((bsI (W.cW x) (W.toLS (W.dSe ex l))) : Nat) : Int)), (AV.sb (bsB (W.cW x) (W.toLS (W.dSe ex l))))]) [] ∧
 (Φ Ex.ret (St.mk [(0, (W.dSe ex l)), (1, (AV.i x)), (2, (AV.fn (Fn.func (53 : FuncId)) [])), (5, (AV.ptr 5 [])), (6, (AV.i (((bsI (W.cW x) (W.toLS (W.dSe ex l))) : Nat) : Int))), (7, (AV.sb (bsB (W.cW x) (W.toLS (W.dSe ex l)))))] [] [5]))) := by kernel_rfl
theorem at_A (ex : Bool) (l : List Ses) (x : Int) (K : Nat) (Φ : Ex → St → Prop) :
  (Holds C P 11 [] K Φ (vc C w_at b_at [] (start [dSe ex l, .i x] []) lf)) =
  (Fun W.C W.P 52 [(W.dSe ex l), (AV.i x), (AV.fn (Fn.func 53) [])] [] (AV.tup [(AV.i (((bsI (W.cW x) (W.toLS (W.dSe ex l))) : Nat) : Int)), (AV.sb (bsB (W.cW x) (W.toLS (W.dSe ex l))))]) [] ∧
 (Φ Ex.ret (St.mk [(0, (W.dSe ex l)), (1, (AV.i x)), (4, (AV.i (((bsI (W.cW x) (W.toLS (W.dSe ex l))) : Nat) : Int))), (5, (AV.sb (bsB (W.cW x) (W.toLS (W.dSe ex l)))))] [] []))) := by kernel_rfl

theorem toL_dat {α : Type} {h : AV → α} {A : α → AV} (hA : ∀ x, h (A x) = x) (l : List α) (d : α) (ex : Bool) (e : Nat) : toL h (.dat l.length ex e (fun i => A (l.getD i d))) = l := by
  unfold toL
  refine List.ext_getElem (by simp) fun i h1 h2 => ?_
  simp only [List.getElem_map, List.getElem_range, hA]
  simp [List.getD_eq_getElem?_getD, List.getElem?_eq_getElem h2]
theorem toS_A (ex : Bool) (l : List ByteArray) : toL asS (dS ex l) = l := toL_dat (fun _ => rfl) l ByteArray.empty ex 1
theorem toPc_A (ex : Bool) (l : List Pc) : toL toPc (dPc ex l) = l := toL_dat (fun _ => rfl) l (0, 0, 0) ex 3
theorem toAc_A (ex : Bool) (l : List Ac) : toL toAc (dAc ex l) = l := toL_dat (fun _ => rfl) l (0, false, 0, 0, false) ex 5
theorem toEn_A (ex : Bool) (l : List En) : toL toEn (dEn ex l) = l := toL_dat (fun _ => rfl) l (ByteArray.empty, 0) ex 2
theorem toNd_A (n : Nd) : toNd (ndA n) = n := by
  simp only [toNd, toAc_A, toEn_A, toPc_A, asI]
theorem toRp_A (r : Rp) : toRp (rpA r) = r := by
  simp only [toRp, toS_A, toPc_A, toNd_A, asI]
theorem toRp_Z : toRp rpZ = rp0 := rfl
theorem toSe_A (s : Ses) : toSe (seA s) = s := by
  simp only [toSe, toRp_A, asI]
theorem toSeL (ex : Bool) (l : List Ses) : toLS (dSe ex l) = l := toL_dat toSe_A l se0 ex 14
/-- Sorted by clients. -/
def Srt (l : List Ses) : Prop := l.Pairwise fun x y => x.who < y.who
theorem seAt_lt {l : List Ses} {j : Nat} (h : j < l.length) : seAt l j = l[j] := by
  unfold seAt; rw [List.getD_eq_getElem?_getD, List.getElem?_eq_getElem h]; rfl
theorem mono_W {l : List Ses} (h : Srt l) (x : Int) : Mono (cW x) l se0 := fun i j hij hj hc => by
  have h1 := List.pairwise_iff_getElem.1 h i j (by omega) hj hij
  have e1 : l.getD i se0 = l[i]'(by omega) := seAt_lt (by omega)
  have e2 : l.getD j se0 = l[j] := seAt_lt hj
  rw [e1]
  rw [e2] at hc
  exact cmpI_lt.2 (by have := cmpI_le.1 hc; omega)
theorem isnan_fun (a : Int) : Fun C P F_isnan [.i a] [] (.v (.bool false)) [] := by
  refine in_isnan (W := w_isnan) rfl 0 (by simp) rfl (fun id h => absurd rfl h) ?_
  refine of_eq (isnan_A a 0 _) (post_tmp rfl (.inr ?_))
  show Value.bool false = .bool (a != a)
  simp
theorem cmpC_fun (a b : Int) : Fun C P F_cmpC [.i a, .i b] [] (.i (cmpI a b)) [] := by
  refine in_cmpC (W := w_cmpC) rfl 0 (by simp) rfl (fun id h => absurd rfl h) ?_
  refine of_eq (cmpC_A a b 0 _) ⟨isnan_fun a, trivial, isnan_fun b, trivial, fun h => ?_, fun h => ⟨fun h2 => ?_, fun h2 => ?_⟩⟩
  · simp only [decide_eq_true_eq] at h
    exact post_tmp rfl (sm_int (by unfold cmpI; rw [if_pos h]))
  · simp only [decide_eq_true_eq, decide_eq_false_iff_not] at h h2
    exact post_tmp rfl (sm_int (by unfold cmpI; rw [if_neg h, if_pos h2]))
  · simp only [decide_eq_false_iff_not] at h h2
    exact post_tmp rfl (sm_int (by unfold cmpI; rw [if_neg h, if_neg h2]))
theorem at1_fun (s : Ses) : Fun C P F_at1 [seA s] [] (.i s.who) [] := by
  refine in_at1 (W := w_at1) rfl 0 (by simp) rfl (fun id h => absurd rfl h) ?_
  exact of_eq (at1_A s 0 _) (post_tmp rfl (sm_int rfl))
theorem find1_fun (s : Ses) (y : Int) : Fun C P F_find1 [seA s, .i y, .pd (.fn (.func 53) [])] [] (.i (cmpI s.who y)) [] := by
  refine in_find1 (W := w_find1) rfl 0 (by simp) rfl (fun id h => absurd rfl h) ?_
  exact of_eq (find1_A s y 0 _) ⟨at1_fun s, trivial, cmpC_fun _ _, trivial, post_tmp rfl (sm_int rfl)⟩
theorem bsS_fun (ex : Bool) (l : List Ses) (x : Int) (hn : l.length < 2 ^ 60) (hm : Mono (cW x) l se0) : Fun C P F_bsS [dSe ex l, .i x, fnF] [] (.tup [.i (bsI (cW x) l : Nat), .sb (bsB (cW x) l)]) [] := by
  refine in_bsS (W := w_bsS) rfl 0 (by simp) rfl (fun id h => absurd rfl h) ?_
  refine of_eq (bsS_A ex l x 0 _) ?_
  refine loop_inv (W := w_bsS) ctx mixed ok_bsS_0 (I_bs ex l x) (fun s => s.1 ≤ s.2 ∧ s.2 ≤ l.length ∧ (∀ k, k < s.1 → cmpI (seAt l k).who x < 0) ∧ ∀ k, s.2 ≤ k → k < l.length → 0 ≤ cmpI (seAt l k).who x) (fun s => s.2 - s.1) (0, l.length) ⟨Nat.zero_le _, Nat.le_refl _, fun k hk => by omega, fun k h1 h2 => by omega⟩ ?_ fun s hs => ?_
  · exact ent_of [] rfl (tm_cons rfl (sm_same rfl) (tm_cons rfl (sm_same rfl) (tm_cons rfl (sm_fn ⟨sm_same rfl, trivial⟩) (tm_cons rfl (sm_same rfl) (tm_cons rfl (sm_same rfl) (tm_cons rfl (sm_same rfl) tm_nil)))))) hp_nil
  obtain ⟨i, j⟩ := s
  obtain ⟨h1, h2, h3, h4⟩ := hs
  dsimp only at h1 h2 h3 h4
  refine of_eq (bsS_L0 ex l x (i, j) 0 _) ?_
  dsimp only
  rw [half (i + j) (by omega)]
  refine ⟨fun h => ?_, fun h => ?_⟩
  · simp only [decide_eq_true_eq] at h
    have hlt : i < j := by omega
    obtain ⟨m, hm'⟩ : ∃ m, m = (i + j) / 2 := ⟨_, rfl⟩
    rw [← hm', Int.toNat_natCast]
    have hmono : ∀ a b, a < b → b < l.length → cmpI (seAt l b).who x < 0 → cmpI (seAt l a).who x < 0 := fun a b hab hb hc => hm a b hab hb (Int.le_of_lt hc)
    refine ⟨(by first | omega | decide | (unfold I64; omega)), (by first | omega | decide | (unfold I64; omega)), (by first | omega | decide | (unfold I64; omega)), (by first | omega | decide | (unfold I64; omega)), find1_fun (seAt l m) x, trivial, fun h5 => ⟨(by first | omega | decide | (unfold I64; omega)), ?_⟩, fun h5 => ?_⟩
    · have h5 : cmpI (seAt l m).who x < 0 := of_decide_eq_true h5
      exact round_end (m + 1, j) ⟨by dsimp only; omega, h2, fun k hk => by
        dsimp only at hk
        by_cases e : k = m
        · rw [e]; exact h5
        · exact hmono k m (by omega) (by omega) h5, h4⟩ (ent_of [] rfl (tm_cons rfl (sm_same rfl) (tm_cons rfl (sm_same rfl) (tm_cons rfl (sm_fn ⟨sm_same rfl, trivial⟩) (tm_cons rfl (sm_same rfl) (tm_cons rfl (sm_same rfl) (tm_cons rfl (sm_same rfl) tm_nil)))))) hp_nil) (by dsimp only; omega)
    · have h5 : ¬ cmpI (seAt l m).who x < 0 := of_decide_eq_false h5
      exact round_end (i, m) ⟨by dsimp only; omega, by dsimp only; omega, h3, fun k hk hkl => by
        dsimp only at hk
        by_cases e : k = m
        · rw [e]; omega
        · by_cases hc : cmpI (seAt l k).who x < 0
          · exact absurd (hmono m k (by omega) hkl hc) h5
          · omega⟩ (ent_of [] rfl (tm_cons rfl (sm_same rfl) (tm_cons rfl (sm_same rfl) (tm_cons rfl (sm_fn ⟨sm_same rfl, trivial⟩) (tm_cons rfl (sm_same rfl) (tm_cons rfl (sm_same rfl) (tm_cons rfl (sm_same rfl) tm_nil)))))) hp_nil) (by dsimp only; omega)
  · simp only [decide_eq_false_iff_not] at h
    obtain rfl : j = i := by omega
    have hI : bsI (cW x) l = j := bs_at (d := se0) h2 h3 h4
    refine ⟨fun h5 => ⟨by simp only [decide_eq_true_eq] at h5; omega, find1_fun (seAt l j) x, trivial, ?_⟩, fun h5 => ?_⟩
    · simp only [decide_eq_true_eq] at h5
      refine post_tup rfl rfl (sm_int (by rw [hI])) (sm_sb ?_) rfl
      rw [bs_has (d := se0) hm (by omega) h3 (h4 j (Nat.le_refl _) (by omega)), beq_dec]
      rfl
    · simp only [decide_eq_false_iff_not] at h5
      refine post_tup rfl rfl (sm_int (by rw [hI])) (sm_b ?_) rfl
      rw [bs_none (d := se0) fun i hi => h3 i (by omega)]
theorem findS_fun (ex : Bool) (l : List Ses) (x : Int) (hn : l.length < 2 ^ 60) (hm : Srt l) : Fun C P F_findS [dSe ex l, .i x, .fn (.func 53) []] [] (.tup [.i (bsI (cW x) l : Nat), .sb (bsB (cW x) l)]) [] := by
  refine in_findS (W := w_findS) rfl 0 (by simp) rfl (fun id h => absurd rfl h) ?_
  refine of_eq (findS_A ex l x 0 _) ?_
  rw [toSeL]
  exact ⟨bsS_fun ex l x hn (mono_W hm x), post_tup rfl rfl (sm_int rfl) (sm_sb rfl) rfl⟩
theorem at_fun (ex : Bool) (l : List Ses) (x : Int) (hn : l.length < 2 ^ 60) (hm : Srt l) : Fun C P F_at [dSe ex l, .i x] [] (.tup [.i (bsI (cW x) l : Nat), .sb (bsB (cW x) l)]) [] := by
  refine in_at (W := w_at) rfl 0 (by simp) rfl (fun id h => absurd rfl h) ?_
  refine of_eq (at_A ex l x 0 _) ?_
  rw [toSeL]
  exact ⟨findS_fun ex l x hn hm, post_tup rfl rfl (sm_int rfl) (sm_sb rfl) rfl⟩
end Go.Bu.W

namespace Go.Bu.W
def crE {α : Type} [DecidableEq α] (h : AV → α) : List AV → Option (AV × List (Nat × Blk))
  | [a, b] => some (.sb (decide (toL h a = toL h b)), [])
  | _ => none
def crN2 (g : Nat) (args : List AV) (H : List (Nat × Blk)) : Option (AV × List (Nat × Blk)) :=
  sel (Nat.beq g F_eqS) (crE asS args) <| sel (Nat.beq g F_eqP) (crE toPc args) <| sel (Nat.beq g F_eqA) (crE toAc args) <| sel (Nat.beq g F_eqE) (crE toEn args) <|
  sel (Nat.beq g F_rNm) (crE asS args) <| sel (Nat.beq g F_rBd) (crE toPc args) <| sel (Nat.beq g F_rAc) (crE toAc args) <| sel (Nat.beq g F_rLs) (crE toEn args) <| crN g args H
def wayE (keep : List Nat) (nt : Nat) (cuts : List Nat) : Way := ⟨crN2, fun _ => false, keep, [], nt, cuts⟩
def w_eqS : Way := wayE [0, 1, 4, 5, 10, 12, 13, 14, 24] 26 []
def w_eqP : Way := wayE [0, 1, 4, 5, 10, 12, 13, 14, 24] 26 []
def w_eqA : Way := wayE [0, 1, 4, 5, 10, 12, 13, 14, 24] 26 []
def w_eqE : Way := wayE [0, 1, 4, 5, 10, 12, 13, 14, 24] 26 []
def w_rNm : Way := wayE [0, 1, 4, 5, 10, 14, 25] 26 []
def w_rBd : Way := wayE [0, 1, 4, 5, 10, 14, 25] 26 []
def w_rAc : Way := wayE [0, 1, 4, 5, 10, 14, 25] 26 []
def w_rLs : Way := wayE [0, 1, 4, 5, 10, 14, 25] 26 []
def I_eq (x y : AV) (n i : Nat) : St := { tm := [(0, x), (1, y), (12, i64 n), (13, i64 i)], hp := [], seen := [] }
def I_rq (x y : AV) (i : Nat) : St := { tm := [(0, x), (1, y), (5, i64 i)], hp := [], seen := [] }
def J_eq {α : Type} (d : α) (l m : List α) (i : Nat) : Prop := i ≤ l.length ∧ ∀ k, k < i → l.getD k d = m.getD k d

theorem eqS_A (ex ex2 : Bool) (l m : List ByteArray) (K : Nat) (Φ : Ex → St → Prop) :
  (Holds C P 26 [] K Φ (vc C w_eqS b_eqS [] (start [dS ex l, dS ex2 m] []) lf)) =
  ((((((List.length l) : Nat) : Int) != (((List.length m) : Nat) : Int)) = true →
 (Φ Ex.ret (St.mk [(0, (W.dS ex l)), (1, (W.dS ex2 m)), (4, (AV.v (Value.bool false))), (10, (AV.v (Value.bool true)))] [] []))) ∧
 (((((List.length l) : Nat) : Int) != (((List.length m) : Nat) : Int)) = false →
 (LoopOK W.C W.P 26 [] K (bodyAt b_eqS [1, 1, 0, 1, 0]) (St.mk [(0, (W.dS ex l)), (1, (W.dS ex2 m)), (4, (AV.v (Value.bool false))), (10, (AV.v (Value.bool false))), (12, (AV.i (((List.length l) : Nat) : Int))), (13, (AV.i (0 : Int)))] [] []) (fun (e : Ex) (S' : St) => Holds W.C W.P 26 [] K Φ (after W.C w_eqS b_eqS [1, 1, 0, 1, 0] [] lf e S'))))) := by kernel_rfl
noncomputable abbrev bd_eqS_0 : Code := bodyAt (b_eqS) [1, 1, 0, 1, 0]
theorem ok_eqS_0 : codeOK bd_eqS_0 = true := by kernel_rfl
noncomputable abbrev rest_eqS_0 (K : Nat) (Φ : Ex → St → Prop) : Ex → St → Prop := fun e S' => Holds C P 26 [] K Φ (after C w_eqS (b_eqS) [1, 1, 0, 1, 0] [] lf e S')
theorem eqS_L0 (ex ex2 : Bool) (l m : List ByteArray) (i : Nat) (K : Nat) (Φ : Ex → St → Prop) :
  (Holds C P 26 [] K (RoundQ C 26 [] K (I_eq (dS ex l) (dS ex2 m) l.length) (J_eq ByteArray.empty l m) (fun i => l.length - i) ((fun i => l.length - i) (i)) (rest_eqS_0 K Φ)) (vc C w_eqS bd_eqS_0 [] ((I_eq (dS ex l) (dS ex2 m) l.length) (i)) lf)) =
  (((decide (((i : Nat) : Int) < (((List.length l) : Nat) : Int))) = true →
 ((((0 : Int) ≤ ((i : Nat) : Int)) ∧ (((i : Nat) : Int) < (((List.length l) : Nat) : Int))) ∧
  ((((0 : Int) ≤ ((i : Nat) : Int)) ∧ (((i : Nat) : Int) < (((List.length m) : Nat) : Int))) ∧
  (((! ((ByteArray.toList (W.sAt l i)) == (ByteArray.toList (W.sAt m i)))) = true →
  (Φ Ex.ret (St.mk [(0, (W.dS ex l)), (1, (W.dS ex2 m)), (4, (AV.v (Value.bool false))), (5, (AV.i ((i : Nat) : Int))), (12, (AV.i (((List.length l) : Nat) : Int))), (13, (AV.i ((i : Nat) : Int))), (14, (AV.v (Value.bool true))), (24, (AV.v (Value.bool true)))] [] []))) ∧
  ((! ((ByteArray.toList (W.sAt l i)) == (ByteArray.toList (W.sAt m i)))) = false →
  ((I64 (((i + 1) : Nat) : Int)) ∧
   ((RoundQ C 26 [] K (I_eq (dS ex l) (dS ex2 m) l.length) (J_eq ByteArray.empty l m) (fun i => l.length - i) ((fun i => l.length - i) (i)) (rest_eqS_0 K Φ)) Ex.normal (St.mk [(0, (W.dS ex l)), (1, (W.dS ex2 m)), (5, (AV.i ((i : Nat) : Int))), (12, (AV.i (((List.length l) : Nat) : Int))), (13, (AV.i (((i + 1) : Nat) : Int))), (14, (AV.v (Value.bool true))), (24, (AV.v (Value.bool false)))] [] [])))))))) ∧
 ((decide (((i : Nat) : Int) < (((List.length l) : Nat) : Int))) = false →
 (Φ Ex.ret (St.mk [(0, (W.dS ex l)), (1, (W.dS ex2 m)), (4, (AV.v (Value.bool true))), (12, (AV.i (((List.length l) : Nat) : Int))), (13, (AV.i ((i : Nat) : Int))), (14, (AV.v (Value.bool false)))] [] [])))) := by kernel_rfl
theorem rNm_A (ex ex2 : Bool) (l m : List ByteArray) (K : Nat) (Φ : Ex → St → Prop) :
  (Holds C P 26 [] K Φ (vc C w_rNm b_rNm [] (start [dS ex l, dS ex2 m] []) lf)) =
  ((((((List.length l) : Nat) : Int) != (((List.length m) : Nat) : Int)) = true →
 (Φ Ex.ret (St.mk [(0, (W.dS ex l)), (1, (W.dS ex2 m)), (4, (AV.v (Value.bool false))), (10, (AV.v (Value.bool true)))] [] []))) ∧
 (((((List.length l) : Nat) : Int) != (((List.length m) : Nat) : Int)) = false →
 (LoopOK W.C W.P 26 [] K (bodyAt b_rNm [1, 1, 0, 1, 0]) (St.mk [(0, (W.dS ex l)), (1, (W.dS ex2 m)), (4, (AV.v (Value.bool false))), (5, (AV.i (0 : Int))), (10, (AV.v (Value.bool false)))] [] []) (fun (e : Ex) (S' : St) => Holds W.C W.P 26 [] K Φ (after W.C w_rNm b_rNm [1, 1, 0, 1, 0] [] lf e S'))))) := by kernel_rfl
noncomputable abbrev bd_rNm_0 : Code := bodyAt (b_rNm) [1, 1, 0, 1, 0]
theorem ok_rNm_0 : codeOK bd_rNm_0 = true := by kernel_rfl
noncomputable abbrev rest_rNm_0 (K : Nat) (Φ : Ex → St → Prop) : Ex → St → Prop := fun e S' => Holds C P 26 [] K Φ (after C w_rNm (b_rNm) [1, 1, 0, 1, 0] [] lf e S')
theorem rNm_L0 (ex ex2 : Bool) (l m : List ByteArray) (i : Nat) (K : Nat) (Φ : Ex → St → Prop) :
  (Holds C P 26 [] K (RoundQ C 26 [] K (I_rq (dS ex l) (dS ex2 m)) (J_eq ByteArray.empty l m) (fun i => l.length - i) ((fun i => l.length - i) (i)) (rest_rNm_0 K Φ)) (vc C w_rNm bd_rNm_0 [] ((I_rq (dS ex l) (dS ex2 m)) (i)) lf)) =
  (((decide (((i : Nat) : Int) < (((List.length l) : Nat) : Int))) = true →
 ((((0 : Int) ≤ ((i : Nat) : Int)) ∧ (((i : Nat) : Int) < (((List.length l) : Nat) : Int))) ∧
  ((((0 : Int) ≤ ((i : Nat) : Int)) ∧ (((i : Nat) : Int) < (((List.length m) : Nat) : Int))) ∧
  (((! ((ByteArray.toList (W.sAt l i)) == (ByteArray.toList (W.sAt m i)))) = true →
  (Φ Ex.ret (St.mk [(0, (W.dS ex l)), (1, (W.dS ex2 m)), (4, (AV.v (Value.bool false))), (5, (AV.i ((i : Nat) : Int))), (14, (AV.v (Value.bool true))), (25, (AV.v (Value.bool true)))] [] []))) ∧
  ((! ((ByteArray.toList (W.sAt l i)) == (ByteArray.toList (W.sAt m i)))) = false →
  ((I64 (((i + 1) : Nat) : Int)) ∧
   ((RoundQ C 26 [] K (I_rq (dS ex l) (dS ex2 m)) (J_eq ByteArray.empty l m) (fun i => l.length - i) ((fun i => l.length - i) (i)) (rest_rNm_0 K Φ)) Ex.normal (St.mk [(0, (W.dS ex l)), (1, (W.dS ex2 m)), (5, (AV.i (((i + 1) : Nat) : Int))), (14, (AV.v (Value.bool true))), (25, (AV.v (Value.bool false)))] [] [])))))))) ∧
 ((decide (((i : Nat) : Int) < (((List.length l) : Nat) : Int))) = false →
 (Φ Ex.ret (St.mk [(0, (W.dS ex l)), (1, (W.dS ex2 m)), (4, (AV.v (Value.bool true))), (5, (AV.i ((i : Nat) : Int))), (14, (AV.v (Value.bool false)))] [] [])))) := by kernel_rfl
theorem eqP_A (ex ex2 : Bool) (l m : List Pc) (K : Nat) (Φ : Ex → St → Prop) :
  (Holds C P 26 [] K Φ (vc C w_eqP b_eqP [] (start [dPc ex l, dPc ex2 m] []) lf)) =
  ((((((List.length l) : Nat) : Int) != (((List.length m) : Nat) : Int)) = true →
 (Φ Ex.ret (St.mk [(0, (W.dPc ex l)), (1, (W.dPc ex2 m)), (4, (AV.v (Value.bool false))), (10, (AV.v (Value.bool true)))] [] []))) ∧
 (((((List.length l) : Nat) : Int) != (((List.length m) : Nat) : Int)) = false →
 (LoopOK W.C W.P 26 [] K (bodyAt b_eqP [1, 1, 0, 1, 0]) (St.mk [(0, (W.dPc ex l)), (1, (W.dPc ex2 m)), (4, (AV.v (Value.bool false))), (10, (AV.v (Value.bool false))), (12, (AV.i (((List.length l) : Nat) : Int))), (13, (AV.i (0 : Int)))] [] []) (fun (e : Ex) (S' : St) => Holds W.C W.P 26 [] K Φ (after W.C w_eqP b_eqP [1, 1, 0, 1, 0] [] lf e S'))))) := by kernel_rfl
noncomputable abbrev bd_eqP_0 : Code := bodyAt (b_eqP) [1, 1, 0, 1, 0]
theorem ok_eqP_0 : codeOK bd_eqP_0 = true := by kernel_rfl
noncomputable abbrev rest_eqP_0 (K : Nat) (Φ : Ex → St → Prop) : Ex → St → Prop := fun e S' => Holds C P 26 [] K Φ (after C w_eqP (b_eqP) [1, 1, 0, 1, 0] [] lf e S')
theorem eqP_L0 (ex ex2 : Bool) (l m : List Pc) (i : Nat) (K : Nat) (Φ : Ex → St → Prop) :
  (Holds C P 26 [] K (RoundQ C 26 [] K (I_eq (dPc ex l) (dPc ex2 m) l.length) (J_eq (0, 0, 0) l m) (fun i => l.length - i) ((fun i => l.length - i) (i)) (rest_eqP_0 K Φ)) (vc C w_eqP bd_eqP_0 [] ((I_eq (dPc ex l) (dPc ex2 m) l.length) (i)) lf)) =
  (((decide (((i : Nat) : Int) < (((List.length l) : Nat) : Int))) = true →
 ((((0 : Int) ≤ ((i : Nat) : Int)) ∧ (((i : Nat) : Int) < (((List.length l) : Nat) : Int))) ∧
  ((((0 : Int) ≤ ((i : Nat) : Int)) ∧ (((i : Nat) : Int) < (((List.length m) : Nat) : Int))) ∧
  (((! (((Prod.fst (W.pcAt l i)) == (Prod.fst (W.pcAt m i))) && (((Prod.fst (Prod.snd (W.pcAt l i))) == (Prod.fst (Prod.snd (W.pcAt m i)))) && (((Prod.snd (Prod.snd (W.pcAt l i))) == (Prod.snd (Prod.snd (W.pcAt m i)))) && true)))) = true →
  (Φ Ex.ret (St.mk [(0, (W.dPc ex l)), (1, (W.dPc ex2 m)), (4, (AV.v (Value.bool false))), (5, (AV.i ((i : Nat) : Int))), (12, (AV.i (((List.length l) : Nat) : Int))), (13, (AV.i ((i : Nat) : Int))), (14, (AV.v (Value.bool true))), (24, (AV.v (Value.bool true)))] [] []))) ∧
  ((! (((Prod.fst (W.pcAt l i)) == (Prod.fst (W.pcAt m i))) && (((Prod.fst (Prod.snd (W.pcAt l i))) == (Prod.fst (Prod.snd (W.pcAt m i)))) && (((Prod.snd (Prod.snd (W.pcAt l i))) == (Prod.snd (Prod.snd (W.pcAt m i)))) && true)))) = false →
  ((I64 (((i + 1) : Nat) : Int)) ∧
   ((RoundQ C 26 [] K (I_eq (dPc ex l) (dPc ex2 m) l.length) (J_eq (0, 0, 0) l m) (fun i => l.length - i) ((fun i => l.length - i) (i)) (rest_eqP_0 K Φ)) Ex.normal (St.mk [(0, (W.dPc ex l)), (1, (W.dPc ex2 m)), (5, (AV.i ((i : Nat) : Int))), (12, (AV.i (((List.length l) : Nat) : Int))), (13, (AV.i (((i + 1) : Nat) : Int))), (14, (AV.v (Value.bool true))), (24, (AV.v (Value.bool false)))] [] [])))))))) ∧
 ((decide (((i : Nat) : Int) < (((List.length l) : Nat) : Int))) = false →
 (Φ Ex.ret (St.mk [(0, (W.dPc ex l)), (1, (W.dPc ex2 m)), (4, (AV.v (Value.bool true))), (12, (AV.i (((List.length l) : Nat) : Int))), (13, (AV.i ((i : Nat) : Int))), (14, (AV.v (Value.bool false)))] [] [])))) := by kernel_rfl
theorem rBd_A (ex ex2 : Bool) (l m : List Pc) (K : Nat) (Φ : Ex → St → Prop) :
  (Holds C P 26 [] K Φ (vc C w_rBd b_rBd [] (start [dPc ex l, dPc ex2 m] []) lf)) =
  ((((((List.length l) : Nat) : Int) != (((List.length m) : Nat) : Int)) = true →
 (Φ Ex.ret (St.mk [(0, (W.dPc ex l)), (1, (W.dPc ex2 m)), (4, (AV.v (Value.bool false))), (10, (AV.v (Value.bool true)))] [] []))) ∧
 (((((List.length l) : Nat) : Int) != (((List.length m) : Nat) : Int)) = false →
 (LoopOK W.C W.P 26 [] K (bodyAt b_rBd [1, 1, 0, 1, 0]) (St.mk [(0, (W.dPc ex l)), (1, (W.dPc ex2 m)), (4, (AV.v (Value.bool false))), (5, (AV.i (0 : Int))), (10, (AV.v (Value.bool false)))] [] []) (fun (e : Ex) (S' : St) => Holds W.C W.P 26 [] K Φ (after W.C w_rBd b_rBd [1, 1, 0, 1, 0] [] lf e S'))))) := by kernel_rfl
noncomputable abbrev bd_rBd_0 : Code := bodyAt (b_rBd) [1, 1, 0, 1, 0]
theorem ok_rBd_0 : codeOK bd_rBd_0 = true := by kernel_rfl
noncomputable abbrev rest_rBd_0 (K : Nat) (Φ : Ex → St → Prop) : Ex → St → Prop := fun e S' => Holds C P 26 [] K Φ (after C w_rBd (b_rBd) [1, 1, 0, 1, 0] [] lf e S')
theorem rBd_L0 (ex ex2 : Bool) (l m : List Pc) (i : Nat) (K : Nat) (Φ : Ex → St → Prop) :
  (Holds C P 26 [] K (RoundQ C 26 [] K (I_rq (dPc ex l) (dPc ex2 m)) (J_eq (0, 0, 0) l m) (fun i => l.length - i) ((fun i => l.length - i) (i)) (rest_rBd_0 K Φ)) (vc C w_rBd bd_rBd_0 [] ((I_rq (dPc ex l) (dPc ex2 m)) (i)) lf)) =
  (((decide (((i : Nat) : Int) < (((List.length l) : Nat) : Int))) = true →
 ((((0 : Int) ≤ ((i : Nat) : Int)) ∧ (((i : Nat) : Int) < (((List.length l) : Nat) : Int))) ∧
  ((((0 : Int) ≤ ((i : Nat) : Int)) ∧ (((i : Nat) : Int) < (((List.length m) : Nat) : Int))) ∧
  (((! (((Prod.fst (W.pcAt l i)) == (Prod.fst (W.pcAt m i))) && (((Prod.fst (Prod.snd (W.pcAt l i))) == (Prod.fst (Prod.snd (W.pcAt m i)))) && (((Prod.snd (Prod.snd (W.pcAt l i))) == (Prod.snd (Prod.snd (W.pcAt m i)))) && true)))) = true →
  (Φ Ex.ret (St.mk [(0, (W.dPc ex l)), (1, (W.dPc ex2 m)), (4, (AV.v (Value.bool false))), (5, (AV.i ((i : Nat) : Int))), (14, (AV.v (Value.bool true))), (25, (AV.v (Value.bool true)))] [] []))) ∧
  ((! (((Prod.fst (W.pcAt l i)) == (Prod.fst (W.pcAt m i))) && (((Prod.fst (Prod.snd (W.pcAt l i))) == (Prod.fst (Prod.snd (W.pcAt m i)))) && (((Prod.snd (Prod.snd (W.pcAt l i))) == (Prod.snd (Prod.snd (W.pcAt m i)))) && true)))) = false →
  ((I64 (((i + 1) : Nat) : Int)) ∧
   ((RoundQ C 26 [] K (I_rq (dPc ex l) (dPc ex2 m)) (J_eq (0, 0, 0) l m) (fun i => l.length - i) ((fun i => l.length - i) (i)) (rest_rBd_0 K Φ)) Ex.normal (St.mk [(0, (W.dPc ex l)), (1, (W.dPc ex2 m)), (5, (AV.i (((i + 1) : Nat) : Int))), (14, (AV.v (Value.bool true))), (25, (AV.v (Value.bool false)))] [] [])))))))) ∧
 ((decide (((i : Nat) : Int) < (((List.length l) : Nat) : Int))) = false →
 (Φ Ex.ret (St.mk [(0, (W.dPc ex l)), (1, (W.dPc ex2 m)), (4, (AV.v (Value.bool true))), (5, (AV.i ((i : Nat) : Int))), (14, (AV.v (Value.bool false)))] [] [])))) := by kernel_rfl
theorem eqA_A (ex ex2 : Bool) (l m : List Ac) (K : Nat) (Φ : Ex → St → Prop) :
  (Holds C P 26 [] K Φ (vc C w_eqA b_eqA [] (start [dAc ex l, dAc ex2 m] []) lf)) =
  ((((((List.length l) : Nat) : Int) != (((List.length m) : Nat) : Int)) = true →
 (Φ Ex.ret (St.mk [(0, (W.dAc ex l)), (1, (W.dAc ex2 m)), (4, (AV.v (Value.bool false))), (10, (AV.v (Value.bool true)))] [] []))) ∧
 (((((List.length l) : Nat) : Int) != (((List.length m) : Nat) : Int)) = false →
 (LoopOK W.C W.P 26 [] K (bodyAt b_eqA [1, 1, 0, 1, 0]) (St.mk [(0, (W.dAc ex l)), (1, (W.dAc ex2 m)), (4, (AV.v (Value.bool false))), (10, (AV.v (Value.bool false))), (12, (AV.i (((List.length l) : Nat) : Int))), (13, (AV.i (0 : Int)))] [] []) (fun (e : Ex) (S' : St) => Holds W.C W.P 26 [] K Φ (after W.C w_eqA b_eqA [1, 1, 0, 1, 0] [] lf e S'))))) := by kernel_rfl
noncomputable abbrev bd_eqA_0 : Code := bodyAt (b_eqA) [1, 1, 0, 1, 0]
theorem ok_eqA_0 : codeOK bd_eqA_0 = true := by kernel_rfl
noncomputable abbrev rest_eqA_0 (K : Nat) (Φ : Ex → St → Prop) : Ex → St → Prop := fun e S' => Holds C P 26 [] K Φ (after C w_eqA (b_eqA) [1, 1, 0, 1, 0] [] lf e S')
theorem eqA_L0 (ex ex2 : Bool) (l m : List Ac) (i : Nat) (K : Nat) (Φ : Ex → St → Prop) :
  (Holds C P 26 [] K (RoundQ C 26 [] K (I_eq (dAc ex l) (dAc ex2 m) l.length) (J_eq (0, false, 0, 0, false) l m) (fun i => l.length - i) ((fun i => l.length - i) (i)) (rest_eqA_0 K Φ)) (vc C w_eqA bd_eqA_0 [] ((I_eq (dAc ex l) (dAc ex2 m) l.length) (i)) lf)) =
  (((decide (((i : Nat) : Int) < (((List.length l) : Nat) : Int))) = true →
 ((((0 : Int) ≤ ((i : Nat) : Int)) ∧ (((i : Nat) : Int) < (((List.length l) : Nat) : Int))) ∧
  ((((0 : Int) ≤ ((i : Nat) : Int)) ∧ (((i : Nat) : Int) < (((List.length m) : Nat) : Int))) ∧
  (((! (((Prod.fst (W.acAt l i)) == (Prod.fst (W.acAt m i))) && (((Prod.fst (Prod.snd (W.acAt l i))) == (Prod.fst (Prod.snd (W.acAt m i)))) && (((Prod.fst (Prod.snd (Prod.snd (W.acAt l i)))) == (Prod.fst (Prod.snd (Prod.snd (W.acAt m i))))) && (((Prod.fst (Prod.snd (Prod.snd (Prod.snd (W.acAt l i))))) == (Prod.fst (Prod.snd (Prod.snd (Prod.snd (W.acAt m i)))))) && (((Prod.snd (Prod.snd (Prod.snd (Prod.snd (W.acAt l i))))) == (Prod.snd (Prod.snd (Prod.snd (Prod.snd (W.acAt m i)))))) && true)))))) = true →
  (Φ Ex.ret (St.mk [(0, (W.dAc ex l)), (1, (W.dAc ex2 m)), (4, (AV.v (Value.bool false))), (5, (AV.i ((i : Nat) : Int))), (12, (AV.i (((List.length l) : Nat) : Int))), (13, (AV.i ((i : Nat) : Int))), (14, (AV.v (Value.bool true))), (24, (AV.v (Value.bool true)))] [] []))) ∧
  ((! (((Prod.fst (W.acAt l i)) == (Prod.fst (W.acAt m i))) && (((Prod.fst (Prod.snd (W.acAt l i))) == (Prod.fst (Prod.snd (W.acAt m i)))) && (((Prod.fst (Prod.snd (Prod.snd (W.acAt l i)))) == (Prod.fst (Prod.snd (Prod.snd (W.acAt m i))))) && (((Prod.fst (Prod.snd (Prod.snd (Prod.snd (W.acAt l i))))) == (Prod.fst (Prod.snd (Prod.snd (Prod.snd (W.acAt m i)))))) && (((Prod.snd (Prod.snd (Prod.snd (Prod.snd (W.acAt l i))))) == (Prod.snd (Prod.snd (Prod.snd (Prod.snd (W.acAt m i)))))) && true)))))) = false →
  ((I64 (((i + 1) : Nat) : Int)) ∧
   ((RoundQ C 26 [] K (I_eq (dAc ex l) (dAc ex2 m) l.length) (J_eq (0, false, 0, 0, false) l m) (fun i => l.length - i) ((fun i => l.length - i) (i)) (rest_eqA_0 K Φ)) Ex.normal (St.mk [(0, (W.dAc ex l)), (1, (W.dAc ex2 m)), (5, (AV.i ((i : Nat) : Int))), (12, (AV.i (((List.length l) : Nat) : Int))), (13, (AV.i (((i + 1) : Nat) : Int))), (14, (AV.v (Value.bool true))), (24, (AV.v (Value.bool false)))] [] [])))))))) ∧
 ((decide (((i : Nat) : Int) < (((List.length l) : Nat) : Int))) = false →
 (Φ Ex.ret (St.mk [(0, (W.dAc ex l)), (1, (W.dAc ex2 m)), (4, (AV.v (Value.bool true))), (12, (AV.i (((List.length l) : Nat) : Int))), (13, (AV.i ((i : Nat) : Int))), (14, (AV.v (Value.bool false)))] [] [])))) := by kernel_rfl
theorem rAc_A (ex ex2 : Bool) (l m : List Ac) (K : Nat) (Φ : Ex → St → Prop) :
  (Holds C P 26 [] K Φ (vc C w_rAc b_rAc [] (start [dAc ex l, dAc ex2 m] []) lf)) =
  ((((((List.length l) : Nat) : Int) != (((List.length m) : Nat) : Int)) = true →
 (Φ Ex.ret (St.mk [(0, (W.dAc ex l)), (1, (W.dAc ex2 m)), (4, (AV.v (Value.bool false))), (10, (AV.v (Value.bool true)))] [] []))) ∧
 (((((List.length l) : Nat) : Int) != (((List.length m) : Nat) : Int)) = false →
 (LoopOK W.C W.P 26 [] K (bodyAt b_rAc [1, 1, 0, 1, 0]) (St.mk [(0, (W.dAc ex l)), (1, (W.dAc ex2 m)), (4, (AV.v (Value.bool false))), (5, (AV.i (0 : Int))), (10, (AV.v (Value.bool false)))] [] []) (fun (e : Ex) (S' : St) => Holds W.C W.P 26 [] K Φ (after W.C w_rAc b_rAc [1, 1, 0, 1, 0] [] lf e S'))))) := by kernel_rfl
noncomputable abbrev bd_rAc_0 : Code := bodyAt (b_rAc) [1, 1, 0, 1, 0]
theorem ok_rAc_0 : codeOK bd_rAc_0 = true := by kernel_rfl
noncomputable abbrev rest_rAc_0 (K : Nat) (Φ : Ex → St → Prop) : Ex → St → Prop := fun e S' => Holds C P 26 [] K Φ (after C w_rAc (b_rAc) [1, 1, 0, 1, 0] [] lf e S')
theorem rAc_L0 (ex ex2 : Bool) (l m : List Ac) (i : Nat) (K : Nat) (Φ : Ex → St → Prop) :
  (Holds C P 26 [] K (RoundQ C 26 [] K (I_rq (dAc ex l) (dAc ex2 m)) (J_eq (0, false, 0, 0, false) l m) (fun i => l.length - i) ((fun i => l.length - i) (i)) (rest_rAc_0 K Φ)) (vc C w_rAc bd_rAc_0 [] ((I_rq (dAc ex l) (dAc ex2 m)) (i)) lf)) =
  (((decide (((i : Nat) : Int) < (((List.length l) : Nat) : Int))) = true →
 ((((0 : Int) ≤ ((i : Nat) : Int)) ∧ (((i : Nat) : Int) < (((List.length l) : Nat) : Int))) ∧
  ((((0 : Int) ≤ ((i : Nat) : Int)) ∧ (((i : Nat) : Int) < (((List.length m) : Nat) : Int))) ∧
  (((! (((Prod.fst (W.acAt l i)) == (Prod.fst (W.acAt m i))) && (((Prod.fst (Prod.snd (W.acAt l i))) == (Prod.fst (Prod.snd (W.acAt m i)))) && (((Prod.fst (Prod.snd (Prod.snd (W.acAt l i)))) == (Prod.fst (Prod.snd (Prod.snd (W.acAt m i))))) && (((Prod.fst (Prod.snd (Prod.snd (Prod.snd (W.acAt l i))))) == (Prod.fst (Prod.snd (Prod.snd (Prod.snd (W.acAt m i)))))) && (((Prod.snd (Prod.snd (Prod.snd (Prod.snd (W.acAt l i))))) == (Prod.snd (Prod.snd (Prod.snd (Prod.snd (W.acAt m i)))))) && true)))))) = true →
  (Φ Ex.ret (St.mk [(0, (W.dAc ex l)), (1, (W.dAc ex2 m)), (4, (AV.v (Value.bool false))), (5, (AV.i ((i : Nat) : Int))), (14, (AV.v (Value.bool true))), (25, (AV.v (Value.bool true)))] [] []))) ∧
  ((! (((Prod.fst (W.acAt l i)) == (Prod.fst (W.acAt m i))) && (((Prod.fst (Prod.snd (W.acAt l i))) == (Prod.fst (Prod.snd (W.acAt m i)))) && (((Prod.fst (Prod.snd (Prod.snd (W.acAt l i)))) == (Prod.fst (Prod.snd (Prod.snd (W.acAt m i))))) && (((Prod.fst (Prod.snd (Prod.snd (Prod.snd (W.acAt l i))))) == (Prod.fst (Prod.snd (Prod.snd (Prod.snd (W.acAt m i)))))) && (((Prod.snd (Prod.snd (Prod.snd (Prod.snd (W.acAt l i))))) == (Prod.snd (Prod.snd (Prod.snd (Prod.snd (W.acAt m i)))))) && true)))))) = false →
  ((I64 (((i + 1) : Nat) : Int)) ∧
   ((RoundQ C 26 [] K (I_rq (dAc ex l) (dAc ex2 m)) (J_eq (0, false, 0, 0, false) l m) (fun i => l.length - i) ((fun i => l.length - i) (i)) (rest_rAc_0 K Φ)) Ex.normal (St.mk [(0, (W.dAc ex l)), (1, (W.dAc ex2 m)), (5, (AV.i (((i + 1) : Nat) : Int))), (14, (AV.v (Value.bool true))), (25, (AV.v (Value.bool false)))] [] [])))))))) ∧
 ((decide (((i : Nat) : Int) < (((List.length l) : Nat) : Int))) = false →
 (Φ Ex.ret (St.mk [(0, (W.dAc ex l)), (1, (W.dAc ex2 m)), (4, (AV.v (Value.bool true))), (5, (AV.i ((i : Nat) : Int))), (14, (AV.v (Value.bool false)))] [] [])))) := by kernel_rfl
theorem eqE_A (ex ex2 : Bool) (l m : List En) (K : Nat) (Φ : Ex → St → Prop) :
  (Holds C P 26 [] K Φ (vc C w_eqE b_eqE [] (start [dEn ex l, dEn ex2 m] []) lf)) =
  ((((((List.length l) : Nat) : Int) != (((List.length m) : Nat) : Int)) = true →
 (Φ Ex.ret (St.mk [(0, (W.dEn ex l)), (1, (W.dEn ex2 m)), (4, (AV.v (Value.bool false))), (10, (AV.v (Value.bool true)))] [] []))) ∧
 (((((List.length l) : Nat) : Int) != (((List.length m) : Nat) : Int)) = false →
 (LoopOK W.C W.P 26 [] K (bodyAt b_eqE [1, 1, 0, 1, 0]) (St.mk [(0, (W.dEn ex l)), (1, (W.dEn ex2 m)), (4, (AV.v (Value.bool false))), (10, (AV.v (Value.bool false))), (12, (AV.i (((List.length l) : Nat) : Int))), (13, (AV.i (0 : Int)))] [] []) (fun (e : Ex) (S' : St) => Holds W.C W.P 26 [] K Φ (after W.C w_eqE b_eqE [1, 1, 0, 1, 0] [] lf e S'))))) := by kernel_rfl
noncomputable abbrev bd_eqE_0 : Code := bodyAt (b_eqE) [1, 1, 0, 1, 0]
theorem ok_eqE_0 : codeOK bd_eqE_0 = true := by kernel_rfl
noncomputable abbrev rest_eqE_0 (K : Nat) (Φ : Ex → St → Prop) : Ex → St → Prop := fun e S' => Holds C P 26 [] K Φ (after C w_eqE (b_eqE) [1, 1, 0, 1, 0] [] lf e S')
theorem eqE_L0 (ex ex2 : Bool) (l m : List En) (i : Nat) (K : Nat) (Φ : Ex → St → Prop) :
  (Holds C P 26 [] K (RoundQ C 26 [] K (I_eq (dEn ex l) (dEn ex2 m) l.length) (J_eq (ByteArray.empty, 0) l m) (fun i => l.length - i) ((fun i => l.length - i) (i)) (rest_eqE_0 K Φ)) (vc C w_eqE bd_eqE_0 [] ((I_eq (dEn ex l) (dEn ex2 m) l.length) (i)) lf)) =
  (((decide (((i : Nat) : Int) < (((List.length l) : Nat) : Int))) = true →
 ((((0 : Int) ≤ ((i : Nat) : Int)) ∧ (((i : Nat) : Int) < (((List.length l) : Nat) : Int))) ∧
  ((((0 : Int) ≤ ((i : Nat) : Int)) ∧ (((i : Nat) : Int) < (((List.length m) : Nat) : Int))) ∧
  (((! (((ByteArray.toList (Prod.fst (W.enAt l i))) == (ByteArray.toList (Prod.fst (W.enAt m i)))) && (((Prod.snd (W.enAt l i)) == (Prod.snd (W.enAt m i))) && true))) = true →
  (Φ Ex.ret (St.mk [(0, (W.dEn ex l)), (1, (W.dEn ex2 m)), (4, (AV.v (Value.bool false))), (5, (AV.i ((i : Nat) : Int))), (12, (AV.i (((List.length l) : Nat) : Int))), (13, (AV.i ((i : Nat) : Int))), (14, (AV.v (Value.bool true))), (24, (AV.v (Value.bool true)))] [] []))) ∧
  ((! (((ByteArray.toList (Prod.fst (W.enAt l i))) == (ByteArray.toList (Prod.fst (W.enAt m i)))) && (((Prod.snd (W.enAt l i)) == (Prod.snd (W.enAt m i))) && true))) = false →
  ((I64 (((i + 1) : Nat) : Int)) ∧
   ((RoundQ C 26 [] K (I_eq (dEn ex l) (dEn ex2 m) l.length) (J_eq (ByteArray.empty, 0) l m) (fun i => l.length - i) ((fun i => l.length - i) (i)) (rest_eqE_0 K Φ)) Ex.normal (St.mk [(0, (W.dEn ex l)), (1, (W.dEn ex2 m)), (5, (AV.i ((i : Nat) : Int))), (12, (AV.i (((List.length l) : Nat) : Int))), (13, (AV.i (((i + 1) : Nat) : Int))), (14, (AV.v (Value.bool true))), (24, (AV.v (Value.bool false)))] [] [])))))))) ∧
 ((decide (((i : Nat) : Int) < (((List.length l) : Nat) : Int))) = false →
 (Φ Ex.ret (St.mk [(0, (W.dEn ex l)), (1, (W.dEn ex2 m)), (4, (AV.v (Value.bool true))), (12, (AV.i (((List.length l) : Nat) : Int))), (13, (AV.i ((i : Nat) : Int))), (14, (AV.v (Value.bool false)))] [] [])))) := by kernel_rfl
theorem rLs_A (ex ex2 : Bool) (l m : List En) (K : Nat) (Φ : Ex → St → Prop) :
  (Holds C P 26 [] K Φ (vc C w_rLs b_rLs [] (start [dEn ex l, dEn ex2 m] []) lf)) =
  ((((((List.length l) : Nat) : Int) != (((List.length m) : Nat) : Int)) = true →
 (Φ Ex.ret (St.mk [(0, (W.dEn ex l)), (1, (W.dEn ex2 m)), (4, (AV.v (Value.bool false))), (10, (AV.v (Value.bool true)))] [] []))) ∧
 (((((List.length l) : Nat) : Int) != (((List.length m) : Nat) : Int)) = false →
 (LoopOK W.C W.P 26 [] K (bodyAt b_rLs [1, 1, 0, 1, 0]) (St.mk [(0, (W.dEn ex l)), (1, (W.dEn ex2 m)), (4, (AV.v (Value.bool false))), (5, (AV.i (0 : Int))), (10, (AV.v (Value.bool false)))] [] []) (fun (e : Ex) (S' : St) => Holds W.C W.P 26 [] K Φ (after W.C w_rLs b_rLs [1, 1, 0, 1, 0] [] lf e S'))))) := by kernel_rfl
noncomputable abbrev bd_rLs_0 : Code := bodyAt (b_rLs) [1, 1, 0, 1, 0]
theorem ok_rLs_0 : codeOK bd_rLs_0 = true := by kernel_rfl
noncomputable abbrev rest_rLs_0 (K : Nat) (Φ : Ex → St → Prop) : Ex → St → Prop := fun e S' => Holds C P 26 [] K Φ (after C w_rLs (b_rLs) [1, 1, 0, 1, 0] [] lf e S')
theorem rLs_L0 (ex ex2 : Bool) (l m : List En) (i : Nat) (K : Nat) (Φ : Ex → St → Prop) :
  (Holds C P 26 [] K (RoundQ C 26 [] K (I_rq (dEn ex l) (dEn ex2 m)) (J_eq (ByteArray.empty, 0) l m) (fun i => l.length - i) ((fun i => l.length - i) (i)) (rest_rLs_0 K Φ)) (vc C w_rLs bd_rLs_0 [] ((I_rq (dEn ex l) (dEn ex2 m)) (i)) lf)) =
  (((decide (((i : Nat) : Int) < (((List.length l) : Nat) : Int))) = true →
 ((((0 : Int) ≤ ((i : Nat) : Int)) ∧ (((i : Nat) : Int) < (((List.length l) : Nat) : Int))) ∧
  ((((0 : Int) ≤ ((i : Nat) : Int)) ∧ (((i : Nat) : Int) < (((List.length m) : Nat) : Int))) ∧
  (((! (((ByteArray.toList (Prod.fst (W.enAt l i))) == (ByteArray.toList (Prod.fst (W.enAt m i)))) && (((Prod.snd (W.enAt l i)) == (Prod.snd (W.enAt m i))) && true))) = true →
  (Φ Ex.ret (St.mk [(0, (W.dEn ex l)), (1, (W.dEn ex2 m)), (4, (AV.v (Value.bool false))), (5, (AV.i ((i : Nat) : Int))), (14, (AV.v (Value.bool true))), (25, (AV.v (Value.bool true)))] [] []))) ∧
  ((! (((ByteArray.toList (Prod.fst (W.enAt l i))) == (ByteArray.toList (Prod.fst (W.enAt m i)))) && (((Prod.snd (W.enAt l i)) == (Prod.snd (W.enAt m i))) && true))) = false →
  ((I64 (((i + 1) : Nat) : Int)) ∧
   ((RoundQ C 26 [] K (I_rq (dEn ex l) (dEn ex2 m)) (J_eq (ByteArray.empty, 0) l m) (fun i => l.length - i) ((fun i => l.length - i) (i)) (rest_rLs_0 K Φ)) Ex.normal (St.mk [(0, (W.dEn ex l)), (1, (W.dEn ex2 m)), (5, (AV.i (((i + 1) : Nat) : Int))), (14, (AV.v (Value.bool true))), (25, (AV.v (Value.bool false)))] [] [])))))))) ∧
 ((decide (((i : Nat) : Int) < (((List.length l) : Nat) : Int))) = false →
 (Φ Ex.ret (St.mk [(0, (W.dEn ex l)), (1, (W.dEn ex2 m)), (4, (AV.v (Value.bool true))), (5, (AV.i ((i : Nat) : Int))), (14, (AV.v (Value.bool false)))] [] [])))) := by kernel_rfl

theorem str_dec (a b : ByteArray) : (a.toList == b.toList) = decide (a = b) := by
  by_cases e : a = b
  · rw [e]; simp
  · rw [decide_eq_false e, beq_eq_false_iff_ne]
    intro h
    rw [ByteArray.toList_eq, ByteArray.toList_eq] at h
    exact e (ByteArray.ext (Array.toList_inj.1 h))
theorem pc_dec (a b : Pc) : ((a.1 == b.1) && ((a.2.1 == b.2.1) && ((a.2.2 == b.2.2) && true))) = decide (a = b) := by
  obtain ⟨a1, a2, a3⟩ := a
  obtain ⟨b1, b2, b3⟩ := b
  rw [Bool.eq_iff_iff]
  simp
theorem ac_dec (a b : Ac) : ((a.1 == b.1) && ((a.2.1 == b.2.1) && ((a.2.2.1 == b.2.2.1) && ((a.2.2.2.1 == b.2.2.2.1) && ((a.2.2.2.2 == b.2.2.2.2) && true))))) = decide (a = b) := by
  obtain ⟨a1, a2, a3, a4, a5⟩ := a
  obtain ⟨b1, b2, b3, b4, b5⟩ := b
  rw [Bool.eq_iff_iff]
  simp
theorem en_dec (a b : En) : ((a.1.toList == b.1.toList) && ((a.2 == b.2) && true)) = decide (a = b) := by
  obtain ⟨a1, a2⟩ := a
  obtain ⟨b1, b2⟩ := b
  rw [str_dec, Bool.eq_iff_iff]
  simp
theorem eq_of_J {α : Type} {d : α} {l m : List α} (h : l.length = m.length) (hj : J_eq d l m l.length) : l = m := by
  refine List.ext_getElem h fun i h1 h2 => ?_
  have := hj.2 i h1
  rwa [List.getD_eq_getElem?_getD, List.getD_eq_getElem?_getD, List.getElem?_eq_getElem h1, List.getElem?_eq_getElem h2] at this
theorem ne_at {α : Type} {d : α} {l m : List α} (i : Nat) (h : l.getD i d ≠ m.getD i d) : l ≠ m := fun e => h (by rw [e])
theorem J_next {α : Type} {d : α} {l m : List α} {i : Nat} (h : J_eq d l m i) (hi : i < l.length) (he : l.getD i d = m.getD i d) : J_eq d l m (i + 1) := ⟨hi, fun k hk => by
  by_cases e : k = i
  · rw [e]; exact he
  · exact h.2 k (by omega)⟩
theorem ne_len {n m : Nat} (h : (((n : Int)) != ((m : Int))) = true) : n ≠ m := fun e => by rw [e] at h; simp at h
theorem eq_len {n m : Nat} (h : (((n : Int)) != ((m : Int))) = false) : n = m := by simp at h; omega

theorem eqS_fun (ex ex2 : Bool) (l m : List ByteArray) (hn : l.length ≤ 9223372036854775807) : Fun C P F_eqS [dS ex l, dS ex2 m] [] (.sb (decide (l = m))) [] := by
  refine in_eqS (W := w_eqS) rfl 0 (by simp) rfl (fun id h => absurd rfl h) ?_
  refine of_eq (eqS_A ex ex2 l m 0 _) ⟨fun h => post_tmp rfl (sm_b (by rw [decide_eq_false fun e => ne_len h (by rw [e])])), fun h => ?_⟩
  have hl := eq_len h
  refine loop_inv (W := w_eqS) ctx mixed ok_eqS_0 (I_eq (dS ex l) (dS ex2 m) l.length) (J_eq ByteArray.empty l m) (fun i => l.length - i) 0 ⟨Nat.zero_le _, fun k hk => absurd hk (Nat.not_lt_zero k)⟩ ?_ fun i hi => ?_
  · exact ent_of [] rfl (tm_cons rfl (sm_same rfl) (tm_cons rfl (sm_same rfl) (tm_cons rfl (sm_same rfl) (tm_cons rfl (sm_same rfl) tm_nil)))) hp_nil
  refine of_eq (eqS_L0 ex ex2 l m i 0 _) ⟨fun h1 => ?_, fun h1 => ?_⟩
  · have h1 := of_decide_eq_true h1
    rw [str_dec]
    refine ⟨(by first | omega | decide | (unfold I64; omega)), (by first | omega | decide | (unfold I64; omega)), fun h2 => post_tmp rfl (sm_b ?_), fun h2 => ⟨(by first | omega | decide | (unfold I64; omega)), round_end (i + 1) (J_next hi (by omega) (of_decide_eq_true (bnf h2))) (ent_of [] rfl (tm_cons rfl (sm_same rfl) (tm_cons rfl (sm_same rfl) (tm_cons rfl (sm_same rfl) (tm_cons rfl (sm_same rfl) tm_nil)))) hp_nil) (by dsimp only; omega)⟩⟩
    rw [decide_eq_false (ne_at (d := ByteArray.empty) i (of_decide_eq_false (bnt h2)))]
  · have h1 := of_decide_eq_false h1
    obtain rfl : i = l.length := by have := hi.1; omega
    exact post_tmp rfl (sm_b (by rw [decide_eq_true (eq_of_J hl hi)]))
theorem rNm_fun (ex ex2 : Bool) (l m : List ByteArray) (hn : l.length ≤ 9223372036854775807) : Fun C P F_rNm [dS ex l, dS ex2 m] [] (.sb (decide (l = m))) [] := by
  refine in_rNm (W := w_rNm) rfl 0 (by simp) rfl (fun id h => absurd rfl h) ?_
  refine of_eq (rNm_A ex ex2 l m 0 _) ⟨fun h => post_tmp rfl (sm_b (by rw [decide_eq_false fun e => ne_len h (by rw [e])])), fun h => ?_⟩
  have hl := eq_len h
  refine loop_inv (W := w_rNm) ctx mixed ok_rNm_0 (I_rq (dS ex l) (dS ex2 m)) (J_eq ByteArray.empty l m) (fun i => l.length - i) 0 ⟨Nat.zero_le _, fun k hk => absurd hk (Nat.not_lt_zero k)⟩ ?_ fun i hi => ?_
  · exact ent_of [] rfl (tm_cons rfl (sm_same rfl) (tm_cons rfl (sm_same rfl) (tm_cons rfl (sm_same rfl) tm_nil))) hp_nil
  refine of_eq (rNm_L0 ex ex2 l m i 0 _) ⟨fun h1 => ?_, fun h1 => ?_⟩
  · have h1 := of_decide_eq_true h1
    rw [str_dec]
    refine ⟨(by first | omega | decide | (unfold I64; omega)), (by first | omega | decide | (unfold I64; omega)), fun h2 => post_tmp rfl (sm_b ?_), fun h2 => ⟨(by first | omega | decide | (unfold I64; omega)), round_end (i + 1) (J_next hi (by omega) (of_decide_eq_true (bnf h2))) (ent_of [] rfl (tm_cons rfl (sm_same rfl) (tm_cons rfl (sm_same rfl) (tm_cons rfl (sm_same rfl) tm_nil))) hp_nil) (by dsimp only; omega)⟩⟩
    rw [decide_eq_false (ne_at (d := ByteArray.empty) i (of_decide_eq_false (bnt h2)))]
  · have h1 := of_decide_eq_false h1
    obtain rfl : i = l.length := by have := hi.1; omega
    exact post_tmp rfl (sm_b (by rw [decide_eq_true (eq_of_J hl hi)]))
theorem eqP_fun (ex ex2 : Bool) (l m : List Pc) (hn : l.length ≤ 9223372036854775807) : Fun C P F_eqP [dPc ex l, dPc ex2 m] [] (.sb (decide (l = m))) [] := by
  refine in_eqP (W := w_eqP) rfl 0 (by simp) rfl (fun id h => absurd rfl h) ?_
  refine of_eq (eqP_A ex ex2 l m 0 _) ⟨fun h => post_tmp rfl (sm_b (by rw [decide_eq_false fun e => ne_len h (by rw [e])])), fun h => ?_⟩
  have hl := eq_len h
  refine loop_inv (W := w_eqP) ctx mixed ok_eqP_0 (I_eq (dPc ex l) (dPc ex2 m) l.length) (J_eq (0, 0, 0) l m) (fun i => l.length - i) 0 ⟨Nat.zero_le _, fun k hk => absurd hk (Nat.not_lt_zero k)⟩ ?_ fun i hi => ?_
  · exact ent_of [] rfl (tm_cons rfl (sm_same rfl) (tm_cons rfl (sm_same rfl) (tm_cons rfl (sm_same rfl) (tm_cons rfl (sm_same rfl) tm_nil)))) hp_nil
  refine of_eq (eqP_L0 ex ex2 l m i 0 _) ⟨fun h1 => ?_, fun h1 => ?_⟩
  · have h1 := of_decide_eq_true h1
    rw [pc_dec]
    refine ⟨(by first | omega | decide | (unfold I64; omega)), (by first | omega | decide | (unfold I64; omega)), fun h2 => post_tmp rfl (sm_b ?_), fun h2 => ⟨(by first | omega | decide | (unfold I64; omega)), round_end (i + 1) (J_next hi (by omega) (of_decide_eq_true (bnf h2))) (ent_of [] rfl (tm_cons rfl (sm_same rfl) (tm_cons rfl (sm_same rfl) (tm_cons rfl (sm_same rfl) (tm_cons rfl (sm_same rfl) tm_nil)))) hp_nil) (by dsimp only; omega)⟩⟩
    rw [decide_eq_false (ne_at (d := (0, 0, 0)) i (of_decide_eq_false (bnt h2)))]
  · have h1 := of_decide_eq_false h1
    obtain rfl : i = l.length := by have := hi.1; omega
    exact post_tmp rfl (sm_b (by rw [decide_eq_true (eq_of_J hl hi)]))
theorem rBd_fun (ex ex2 : Bool) (l m : List Pc) (hn : l.length ≤ 9223372036854775807) : Fun C P F_rBd [dPc ex l, dPc ex2 m] [] (.sb (decide (l = m))) [] := by
  refine in_rBd (W := w_rBd) rfl 0 (by simp) rfl (fun id h => absurd rfl h) ?_
  refine of_eq (rBd_A ex ex2 l m 0 _) ⟨fun h => post_tmp rfl (sm_b (by rw [decide_eq_false fun e => ne_len h (by rw [e])])), fun h => ?_⟩
  have hl := eq_len h
  refine loop_inv (W := w_rBd) ctx mixed ok_rBd_0 (I_rq (dPc ex l) (dPc ex2 m)) (J_eq (0, 0, 0) l m) (fun i => l.length - i) 0 ⟨Nat.zero_le _, fun k hk => absurd hk (Nat.not_lt_zero k)⟩ ?_ fun i hi => ?_
  · exact ent_of [] rfl (tm_cons rfl (sm_same rfl) (tm_cons rfl (sm_same rfl) (tm_cons rfl (sm_same rfl) tm_nil))) hp_nil
  refine of_eq (rBd_L0 ex ex2 l m i 0 _) ⟨fun h1 => ?_, fun h1 => ?_⟩
  · have h1 := of_decide_eq_true h1
    rw [pc_dec]
    refine ⟨(by first | omega | decide | (unfold I64; omega)), (by first | omega | decide | (unfold I64; omega)), fun h2 => post_tmp rfl (sm_b ?_), fun h2 => ⟨(by first | omega | decide | (unfold I64; omega)), round_end (i + 1) (J_next hi (by omega) (of_decide_eq_true (bnf h2))) (ent_of [] rfl (tm_cons rfl (sm_same rfl) (tm_cons rfl (sm_same rfl) (tm_cons rfl (sm_same rfl) tm_nil))) hp_nil) (by dsimp only; omega)⟩⟩
    rw [decide_eq_false (ne_at (d := (0, 0, 0)) i (of_decide_eq_false (bnt h2)))]
  · have h1 := of_decide_eq_false h1
    obtain rfl : i = l.length := by have := hi.1; omega
    exact post_tmp rfl (sm_b (by rw [decide_eq_true (eq_of_J hl hi)]))
theorem eqA_fun (ex ex2 : Bool) (l m : List Ac) (hn : l.length ≤ 9223372036854775807) : Fun C P F_eqA [dAc ex l, dAc ex2 m] [] (.sb (decide (l = m))) [] := by
  refine in_eqA (W := w_eqA) rfl 0 (by simp) rfl (fun id h => absurd rfl h) ?_
  refine of_eq (eqA_A ex ex2 l m 0 _) ⟨fun h => post_tmp rfl (sm_b (by rw [decide_eq_false fun e => ne_len h (by rw [e])])), fun h => ?_⟩
  have hl := eq_len h
  refine loop_inv (W := w_eqA) ctx mixed ok_eqA_0 (I_eq (dAc ex l) (dAc ex2 m) l.length) (J_eq (0, false, 0, 0, false) l m) (fun i => l.length - i) 0 ⟨Nat.zero_le _, fun k hk => absurd hk (Nat.not_lt_zero k)⟩ ?_ fun i hi => ?_
  · exact ent_of [] rfl (tm_cons rfl (sm_same rfl) (tm_cons rfl (sm_same rfl) (tm_cons rfl (sm_same rfl) (tm_cons rfl (sm_same rfl) tm_nil)))) hp_nil
  refine of_eq (eqA_L0 ex ex2 l m i 0 _) ⟨fun h1 => ?_, fun h1 => ?_⟩
  · have h1 := of_decide_eq_true h1
    rw [ac_dec]
    refine ⟨(by first | omega | decide | (unfold I64; omega)), (by first | omega | decide | (unfold I64; omega)), fun h2 => post_tmp rfl (sm_b ?_), fun h2 => ⟨(by first | omega | decide | (unfold I64; omega)), round_end (i + 1) (J_next hi (by omega) (of_decide_eq_true (bnf h2))) (ent_of [] rfl (tm_cons rfl (sm_same rfl) (tm_cons rfl (sm_same rfl) (tm_cons rfl (sm_same rfl) (tm_cons rfl (sm_same rfl) tm_nil)))) hp_nil) (by dsimp only; omega)⟩⟩
    rw [decide_eq_false (ne_at (d := (0, false, 0, 0, false)) i (of_decide_eq_false (bnt h2)))]
  · have h1 := of_decide_eq_false h1
    obtain rfl : i = l.length := by have := hi.1; omega
    exact post_tmp rfl (sm_b (by rw [decide_eq_true (eq_of_J hl hi)]))
theorem rAc_fun (ex ex2 : Bool) (l m : List Ac) (hn : l.length ≤ 9223372036854775807) : Fun C P F_rAc [dAc ex l, dAc ex2 m] [] (.sb (decide (l = m))) [] := by
  refine in_rAc (W := w_rAc) rfl 0 (by simp) rfl (fun id h => absurd rfl h) ?_
  refine of_eq (rAc_A ex ex2 l m 0 _) ⟨fun h => post_tmp rfl (sm_b (by rw [decide_eq_false fun e => ne_len h (by rw [e])])), fun h => ?_⟩
  have hl := eq_len h
  refine loop_inv (W := w_rAc) ctx mixed ok_rAc_0 (I_rq (dAc ex l) (dAc ex2 m)) (J_eq (0, false, 0, 0, false) l m) (fun i => l.length - i) 0 ⟨Nat.zero_le _, fun k hk => absurd hk (Nat.not_lt_zero k)⟩ ?_ fun i hi => ?_
  · exact ent_of [] rfl (tm_cons rfl (sm_same rfl) (tm_cons rfl (sm_same rfl) (tm_cons rfl (sm_same rfl) tm_nil))) hp_nil
  refine of_eq (rAc_L0 ex ex2 l m i 0 _) ⟨fun h1 => ?_, fun h1 => ?_⟩
  · have h1 := of_decide_eq_true h1
    rw [ac_dec]
    refine ⟨(by first | omega | decide | (unfold I64; omega)), (by first | omega | decide | (unfold I64; omega)), fun h2 => post_tmp rfl (sm_b ?_), fun h2 => ⟨(by first | omega | decide | (unfold I64; omega)), round_end (i + 1) (J_next hi (by omega) (of_decide_eq_true (bnf h2))) (ent_of [] rfl (tm_cons rfl (sm_same rfl) (tm_cons rfl (sm_same rfl) (tm_cons rfl (sm_same rfl) tm_nil))) hp_nil) (by dsimp only; omega)⟩⟩
    rw [decide_eq_false (ne_at (d := (0, false, 0, 0, false)) i (of_decide_eq_false (bnt h2)))]
  · have h1 := of_decide_eq_false h1
    obtain rfl : i = l.length := by have := hi.1; omega
    exact post_tmp rfl (sm_b (by rw [decide_eq_true (eq_of_J hl hi)]))
theorem eqE_fun (ex ex2 : Bool) (l m : List En) (hn : l.length ≤ 9223372036854775807) : Fun C P F_eqE [dEn ex l, dEn ex2 m] [] (.sb (decide (l = m))) [] := by
  refine in_eqE (W := w_eqE) rfl 0 (by simp) rfl (fun id h => absurd rfl h) ?_
  refine of_eq (eqE_A ex ex2 l m 0 _) ⟨fun h => post_tmp rfl (sm_b (by rw [decide_eq_false fun e => ne_len h (by rw [e])])), fun h => ?_⟩
  have hl := eq_len h
  refine loop_inv (W := w_eqE) ctx mixed ok_eqE_0 (I_eq (dEn ex l) (dEn ex2 m) l.length) (J_eq (ByteArray.empty, 0) l m) (fun i => l.length - i) 0 ⟨Nat.zero_le _, fun k hk => absurd hk (Nat.not_lt_zero k)⟩ ?_ fun i hi => ?_
  · exact ent_of [] rfl (tm_cons rfl (sm_same rfl) (tm_cons rfl (sm_same rfl) (tm_cons rfl (sm_same rfl) (tm_cons rfl (sm_same rfl) tm_nil)))) hp_nil
  refine of_eq (eqE_L0 ex ex2 l m i 0 _) ⟨fun h1 => ?_, fun h1 => ?_⟩
  · have h1 := of_decide_eq_true h1
    rw [en_dec]
    refine ⟨(by first | omega | decide | (unfold I64; omega)), (by first | omega | decide | (unfold I64; omega)), fun h2 => post_tmp rfl (sm_b ?_), fun h2 => ⟨(by first | omega | decide | (unfold I64; omega)), round_end (i + 1) (J_next hi (by omega) (of_decide_eq_true (bnf h2))) (ent_of [] rfl (tm_cons rfl (sm_same rfl) (tm_cons rfl (sm_same rfl) (tm_cons rfl (sm_same rfl) (tm_cons rfl (sm_same rfl) tm_nil)))) hp_nil) (by dsimp only; omega)⟩⟩
    rw [decide_eq_false (ne_at (d := (ByteArray.empty, 0)) i (of_decide_eq_false (bnt h2)))]
  · have h1 := of_decide_eq_false h1
    obtain rfl : i = l.length := by have := hi.1; omega
    exact post_tmp rfl (sm_b (by rw [decide_eq_true (eq_of_J hl hi)]))
theorem rLs_fun (ex ex2 : Bool) (l m : List En) (hn : l.length ≤ 9223372036854775807) : Fun C P F_rLs [dEn ex l, dEn ex2 m] [] (.sb (decide (l = m))) [] := by
  refine in_rLs (W := w_rLs) rfl 0 (by simp) rfl (fun id h => absurd rfl h) ?_
  refine of_eq (rLs_A ex ex2 l m 0 _) ⟨fun h => post_tmp rfl (sm_b (by rw [decide_eq_false fun e => ne_len h (by rw [e])])), fun h => ?_⟩
  have hl := eq_len h
  refine loop_inv (W := w_rLs) ctx mixed ok_rLs_0 (I_rq (dEn ex l) (dEn ex2 m)) (J_eq (ByteArray.empty, 0) l m) (fun i => l.length - i) 0 ⟨Nat.zero_le _, fun k hk => absurd hk (Nat.not_lt_zero k)⟩ ?_ fun i hi => ?_
  · exact ent_of [] rfl (tm_cons rfl (sm_same rfl) (tm_cons rfl (sm_same rfl) (tm_cons rfl (sm_same rfl) tm_nil))) hp_nil
  refine of_eq (rLs_L0 ex ex2 l m i 0 _) ⟨fun h1 => ?_, fun h1 => ?_⟩
  · have h1 := of_decide_eq_true h1
    rw [en_dec]
    refine ⟨(by first | omega | decide | (unfold I64; omega)), (by first | omega | decide | (unfold I64; omega)), fun h2 => post_tmp rfl (sm_b ?_), fun h2 => ⟨(by first | omega | decide | (unfold I64; omega)), round_end (i + 1) (J_next hi (by omega) (of_decide_eq_true (bnf h2))) (ent_of [] rfl (tm_cons rfl (sm_same rfl) (tm_cons rfl (sm_same rfl) (tm_cons rfl (sm_same rfl) tm_nil))) hp_nil) (by dsimp only; omega)⟩⟩
    rw [decide_eq_false (ne_at (d := (ByteArray.empty, 0)) i (of_decide_eq_false (bnt h2)))]
  · have h1 := of_decide_eq_false h1
    obtain rfl : i = l.length := by have := hi.1; omega
    exact post_tmp rfl (sm_b (by rw [decide_eq_true (eq_of_J hl hi)]))
end Go.Bu.W

