/- The seat's types, for the abstract machine. -/
import Derived.Test.YtjfggjlbnmdceaaK10
import Derived.Test.YtjfggjlbnmdceaaChecked
namespace Go.Bu.W
def tys : List TI := [
  ⟨.other, 0, 0⟩,
  ⟨.func, 1, 8⟩,
  ⟨.int .i64, 1, 8⟩,
  ⟨.int .i64, 1, 8⟩,
  ⟨.bool, 1, 1⟩,
  ⟨.int .u8, 1, 1⟩,
  ⟨.int .u8, 1, 1⟩,
  ⟨.struct [(2, 0), (3, 1), (4, 2), (6, 3)], 4, 24⟩,
  ⟨.struct [(2, 0), (3, 1), (4, 2), (6, 3)], 4, 24⟩,
  ⟨.str, 1, 16⟩,
  ⟨.str, 1, 16⟩,
  ⟨.str, 1, 16⟩,
  ⟨.int .u64, 1, 8⟩,
  ⟨.other, 0, 0⟩,
  ⟨.other, 0, 0⟩,
  ⟨.ptr 95, 1, 8⟩,
  ⟨.ptr 98, 1, 8⟩,
  ⟨.ptr 108, 1, 8⟩,
  ⟨.other, 0, 0⟩,
  ⟨.other, 0, 0⟩,
  ⟨.iface, 1, 16⟩,
  ⟨.int .i32, 1, 4⟩,
  ⟨.slice 47, 1, 24⟩,
  ⟨.array 3 3 false, 3, 24⟩,
  ⟨.struct [(3, 0), (3, 1), (3, 2)], 3, 24⟩,
  ⟨.struct [(3, 0), (3, 1), (3, 2)], 3, 24⟩,
  ⟨.func, 1, 8⟩,
  ⟨.slice 25, 1, 24⟩,
  ⟨.slice 32, 1, 24⟩,
  ⟨.struct [(27, 0), (28, 1), (3, 2)], 3, 56⟩,
  ⟨.struct [(27, 0), (28, 1), (3, 2)], 3, 56⟩,
  ⟨.func, 1, 8⟩,
  ⟨.array 2 3 false, 2, 16⟩,
  ⟨.int .i64, 1, 8⟩,
  ⟨.struct [(30, 0), (3, 3), (33, 4)], 5, 72⟩,
  ⟨.struct [(30, 0), (3, 3), (33, 4)], 5, 72⟩,
  ⟨.func, 1, 8⟩,
  ⟨.func, 1, 8⟩,
  ⟨.func, 1, 8⟩,
  ⟨.struct [(30, 0), (25, 3), (33, 6)], 7, 88⟩,
  ⟨.struct [(30, 0), (25, 3), (33, 6)], 7, 88⟩,
  ⟨.func, 1, 8⟩,
  ⟨.func, 1, 8⟩,
  ⟨.func, 1, 8⟩,
  ⟨.func, 1, 8⟩,
  ⟨.func, 1, 8⟩,
  ⟨.func, 1, 8⟩,
  ⟨.array 3 5 false, 3, 3⟩,
  ⟨.func, 1, 8⟩,
  ⟨.func, 1, 8⟩,
  ⟨.slice 52, 1, 24⟩,
  ⟨.slice 5, 1, 24⟩,
  ⟨.array 2 5 false, 2, 2⟩,
  ⟨.func, 1, 8⟩,
  ⟨.func, 1, 8⟩,
  ⟨.func, 1, 8⟩,
  ⟨.func, 1, 8⟩,
  ⟨.func, 1, 8⟩,
  ⟨.other, 0, 0⟩,
  ⟨.func, 1, 8⟩,
  ⟨.func, 1, 8⟩,
  ⟨.other, 0, 0⟩,
  ⟨.func, 1, 8⟩,
  ⟨.func, 1, 8⟩,
  ⟨.func, 1, 8⟩,
  ⟨.other, 0, 0⟩,
  ⟨.func, 1, 8⟩,
  ⟨.func, 1, 8⟩,
  ⟨.func, 1, 8⟩,
  ⟨.func, 1, 8⟩,
  ⟨.other, 0, 0⟩,
  ⟨.func, 1, 8⟩,
  ⟨.func, 1, 8⟩,
  ⟨.func, 1, 8⟩,
  ⟨.func, 1, 8⟩,
  ⟨.other, 0, 0⟩,
  ⟨.func, 1, 8⟩,
  ⟨.int .u64, 1, 8⟩,
  ⟨.func, 1, 8⟩,
  ⟨.func, 1, 8⟩,
  ⟨.func, 1, 8⟩,
  ⟨.func, 1, 8⟩,
  ⟨.func, 1, 8⟩,
  ⟨.func, 1, 8⟩,
  ⟨.func, 1, 8⟩,
  ⟨.func, 1, 8⟩,
  ⟨.func, 1, 8⟩,
  ⟨.func, 1, 8⟩,
  ⟨.slice 3, 1, 24⟩,
  ⟨.func, 1, 8⟩,
  ⟨.func, 1, 8⟩,
  ⟨.func, 1, 8⟩,
  ⟨.func, 1, 8⟩,
  ⟨.func, 1, 8⟩,
  ⟨.other, 0, 0⟩,
  ⟨.other, 0, 0⟩,
  ⟨.other, 0, 0⟩,
  ⟨.other, 0, 0⟩,
  ⟨.other, 0, 0⟩,
  ⟨.func, 1, 8⟩,
  ⟨.int .u32, 1, 4⟩,
  ⟨.int .u8, 1, 1⟩,
  ⟨.int .u8, 1, 1⟩,
  ⟨.func, 1, 8⟩,
  ⟨.ptr 5, 1, 8⟩,
  ⟨.int .i32, 1, 4⟩,
  ⟨.int .i32, 1, 4⟩,
  ⟨.other, 0, 0⟩,
  ⟨.other, 0, 0⟩,
  ⟨.other, 0, 0⟩]


def gls (_ : Nat) : Option AV := none
def C : Ctx := ⟨ttOf tys, gls⟩
noncomputable abbrev P : Program := Proofs.Try.prog

set_option maxRecDepth 100000 in
theorem ctx : CtxOK C P := ctx_ok (by kernel_rfl) (by kernel_rfl) (by kernel_rfl) (by kernel_rfl)
theorem mixed : P.follows .mixedOrders = true := Checked.mixed Proofs.Try.checked
end Go.Bu.W

namespace Go.Bu.W
abbrev F_nlm : Nat := 3
noncomputable def b_nlm : Code := Proofs.Try.f3.body.getD .skip
theorem in_nlm {W : Way} (hW : W.nt = 176) {args : List AV} {H : List (Nat × Blk)} {r : AV} {H' : List (Nat × Blk)} (k : Nat) (hl : args.length ≤ 176) (hno : noTups args = true) (hk : ∀ id, look H id ≠ none → id < k)
    (hv : Holds C P 176 [] k (FunPost C 176 k [.tmp 6] r H') (vc C W b_nlm [] (start args H) lf)) : Fun C P F_nlm args H r H' := by
  refine fun_of (W := W) ctx mixed (fn := Proofs.Try.f3) (c := b_nlm) Proofs.Try.func3 (by kernel_rfl) (by kernel_rfl) (by kernel_rfl) (by rw [hW]; kernel_rfl) (by rw [hW]; exact hl) hno k hk ?_
  rw [hW, show Proofs.Try.f3.results.toList = [.tmp 6] by kernel_rfl]
  exact hv
abbrev F_nls : Nat := 4
noncomputable def b_nls : Code := Proofs.Try.f4.body.getD .skip
abbrev l_nls_0 : List Nat := [1, 1, 1, 0, 1, 0]
theorem in_nls {W : Way} (hW : W.nt = 117) {args : List AV} {H : List (Nat × Blk)} {r : AV} {H' : List (Nat × Blk)} (k : Nat) (hl : args.length ≤ 117) (hno : noTups args = true) (hk : ∀ id, look H id ≠ none → id < k)
    (hv : Holds C P 117 [] k (FunPost C 117 k [.tmp 2] r H') (vc C W b_nls [] (start args H) lf)) : Fun C P F_nls args H r H' := by
  refine fun_of (W := W) ctx mixed (fn := Proofs.Try.f4) (c := b_nls) Proofs.Try.func4 (by kernel_rfl) (by kernel_rfl) (by kernel_rfl) (by rw [hW]; kernel_rfl) (by rw [hW]; exact hl) hno k hk ?_
  rw [hW, show Proofs.Try.f4.results.toList = [.tmp 2] by kernel_rfl]
  exact hv
abbrev F_nlo : Nat := 5
noncomputable def b_nlo : Code := Proofs.Try.f5.body.getD .skip
abbrev l_nlo_0 : List Nat := [1, 1, 1, 0, 1, 0]
abbrev l_nlo_1 : List Nat := [1, 1, 1, 1, 0, 1, 0]
theorem in_nlo {W : Way} (hW : W.nt = 163) {args : List AV} {H : List (Nat × Blk)} {r : AV} {H' : List (Nat × Blk)} (k : Nat) (hl : args.length ≤ 163) (hno : noTups args = true) (hk : ∀ id, look H id ≠ none → id < k)
    (hv : Holds C P 163 [] k (FunPost C 163 k [.tmp 4] r H') (vc C W b_nlo [] (start args H) lf)) : Fun C P F_nlo args H r H' := by
  refine fun_of (W := W) ctx mixed (fn := Proofs.Try.f5) (c := b_nlo) Proofs.Try.func5 (by kernel_rfl) (by kernel_rfl) (by kernel_rfl) (by rw [hW]; kernel_rfl) (by rw [hW]; exact hl) hno k hk ?_
  rw [hW, show Proofs.Try.f5.results.toList = [.tmp 4] by kernel_rfl]
  exact hv
abbrev F_nlc : Nat := 6
noncomputable def b_nlc : Code := Proofs.Try.f6.body.getD .skip
abbrev l_nlc_0 : List Nat := [1, 1, 1, 1, 1, 1, 0, 1, 0]
abbrev l_nlc_1 : List Nat := [1, 1, 1, 1, 1, 1, 1, 0, 1, 0]
abbrev l_nlc_2 : List Nat := [1, 1, 1, 1, 1, 1, 1, 0, 1, 0, 0, 1, 0, 0, 1, 0]
theorem in_nlc {W : Way} (hW : W.nt = 289) {args : List AV} {H : List (Nat × Blk)} {r : AV} {H' : List (Nat × Blk)} (k : Nat) (hl : args.length ≤ 289) (hno : noTups args = true) (hk : ∀ id, look H id ≠ none → id < k)
    (hv : Holds C P 289 [] k (FunPost C 289 k [.tmp 4] r H') (vc C W b_nlc [] (start args H) lf)) : Fun C P F_nlc args H r H' := by
  refine fun_of (W := W) ctx mixed (fn := Proofs.Try.f6) (c := b_nlc) Proofs.Try.func6 (by kernel_rfl) (by kernel_rfl) (by kernel_rfl) (by rw [hW]; kernel_rfl) (by rw [hW]; exact hl) hno k hk ?_
  rw [hW, show Proofs.Try.f6.results.toList = [.tmp 4] by kernel_rfl]
  exact hv
abbrev F_nll : Nat := 7
noncomputable def b_nll : Code := Proofs.Try.f7.body.getD .skip
abbrev l_nll_0 : List Nat := [1, 1, 1, 1, 1, 1, 1, 0, 1, 0]
theorem in_nll {W : Way} (hW : W.nt = 133) {args : List AV} {H : List (Nat × Blk)} {r : AV} {H' : List (Nat × Blk)} (k : Nat) (hl : args.length ≤ 133) (hno : noTups args = true) (hk : ∀ id, look H id ≠ none → id < k)
    (hv : Holds C P 133 [] k (FunPost C 133 k [.tmp 4] r H') (vc C W b_nll [] (start args H) lf)) : Fun C P F_nll args H r H' := by
  refine fun_of (W := W) ctx mixed (fn := Proofs.Try.f7) (c := b_nll) Proofs.Try.func7 (by kernel_rfl) (by kernel_rfl) (by kernel_rfl) (by rw [hW]; kernel_rfl) (by rw [hW]; exact hl) hno k hk ?_
  rw [hW, show Proofs.Try.f7.results.toList = [.tmp 4] by kernel_rfl]
  exact hv
abbrev F_nld : Nat := 8
noncomputable def b_nld : Code := Proofs.Try.f8.body.getD .skip
abbrev l_nld_0 : List Nat := [1, 1, 1, 1, 1, 1, 0, 1, 0]
abbrev l_nld_1 : List Nat := [1, 1, 1, 1, 1, 1, 1, 0, 1, 0]
theorem in_nld {W : Way} (hW : W.nt = 130) {args : List AV} {H : List (Nat × Blk)} {r : AV} {H' : List (Nat × Blk)} (k : Nat) (hl : args.length ≤ 130) (hno : noTups args = true) (hk : ∀ id, look H id ≠ none → id < k)
    (hv : Holds C P 130 [] k (FunPost C 130 k [.tmp 6] r H') (vc C W b_nld [] (start args H) lf)) : Fun C P F_nld args H r H' := by
  refine fun_of (W := W) ctx mixed (fn := Proofs.Try.f8) (c := b_nld) Proofs.Try.func8 (by kernel_rfl) (by kernel_rfl) (by kernel_rfl) (by rw [hW]; kernel_rfl) (by rw [hW]; exact hl) hno k hk ?_
  rw [hW, show Proofs.Try.f8.results.toList = [.tmp 6] by kernel_rfl]
  exact hv
abbrev F_nln : Nat := 9
noncomputable def b_nln : Code := Proofs.Try.f9.body.getD .skip
abbrev l_nln_0 : List Nat := [1, 1, 1, 0, 1, 0]
theorem in_nln {W : Way} (hW : W.nt = 109) {args : List AV} {H : List (Nat × Blk)} {r : AV} {H' : List (Nat × Blk)} (k : Nat) (hl : args.length ≤ 109) (hno : noTups args = true) (hk : ∀ id, look H id ≠ none → id < k)
    (hv : Holds C P 109 [] k (FunPost C 109 k [.tmp 2] r H') (vc C W b_nln [] (start args H) lf)) : Fun C P F_nln args H r H' := by
  refine fun_of (W := W) ctx mixed (fn := Proofs.Try.f9) (c := b_nln) Proofs.Try.func9 (by kernel_rfl) (by kernel_rfl) (by kernel_rfl) (by rw [hW]; kernel_rfl) (by rw [hW]; exact hl) hno k hk ?_
  rw [hW, show Proofs.Try.f9.results.toList = [.tmp 2] by kernel_rfl]
  exact hv
abbrev F_nli : Nat := 10
noncomputable def b_nli : Code := Proofs.Try.f10.body.getD .skip
abbrev l_nli_0 : List Nat := [1, 1, 1, 0, 1, 0]
theorem in_nli {W : Way} (hW : W.nt = 173) {args : List AV} {H : List (Nat × Blk)} {r : AV} {H' : List (Nat × Blk)} (k : Nat) (hl : args.length ≤ 173) (hno : noTups args = true) (hk : ∀ id, look H id ≠ none → id < k)
    (hv : Holds C P 173 [] k (FunPost C 173 k [.tmp 4] r H') (vc C W b_nli [] (start args H) lf)) : Fun C P F_nli args H r H' := by
  refine fun_of (W := W) ctx mixed (fn := Proofs.Try.f10) (c := b_nli) Proofs.Try.func10 (by kernel_rfl) (by kernel_rfl) (by kernel_rfl) (by rw [hW]; kernel_rfl) (by rw [hW]; exact hl) hno k hk ?_
  rw [hW, show Proofs.Try.f10.results.toList = [.tmp 4] by kernel_rfl]
  exact hv
abbrev F_sanity : Nat := 11
noncomputable def b_sanity : Code := Proofs.Try.f11.body.getD .skip
theorem in_sanity {W : Way} (hW : W.nt = 163) {args : List AV} {H : List (Nat × Blk)} {r : AV} {H' : List (Nat × Blk)} (k : Nat) (hl : args.length ≤ 163) (hno : noTups args = true) (hk : ∀ id, look H id ≠ none → id < k)
    (hv : Holds C P 163 [] k (FunPost C 163 k [.tmp 0] r H') (vc C W b_sanity [] (start args H) lf)) : Fun C P F_sanity args H r H' := by
  refine fun_of (W := W) ctx mixed (fn := Proofs.Try.f11) (c := b_sanity) Proofs.Try.func11 (by kernel_rfl) (by kernel_rfl) (by kernel_rfl) (by rw [hW]; kernel_rfl) (by rw [hW]; exact hl) hno k hk ?_
  rw [hW, show Proofs.Try.f11.results.toList = [.tmp 0] by kernel_rfl]
  exact hv
abbrev F_made : Nat := 12
noncomputable def b_made : Code := Proofs.Try.f12.body.getD .skip
abbrev l_made_0 : List Nat := [1, 1, 0, 1, 0]
theorem in_made {W : Way} (hW : W.nt = 23) {args : List AV} {H : List (Nat × Blk)} {r : AV} {H' : List (Nat × Blk)} (k : Nat) (hl : args.length ≤ 23) (hno : noTups args = true) (hk : ∀ id, look H id ≠ none → id < k)
    (hv : Holds C P 23 [] k (FunPost C 23 k [.cell 2 30] r H') (vc C W b_made [] (start args H) lf)) : Fun C P F_made args H r H' := by
  refine fun_of (W := W) ctx mixed (fn := Proofs.Try.f12) (c := b_made) Proofs.Try.func12 (by kernel_rfl) (by kernel_rfl) (by kernel_rfl) (by rw [hW]; kernel_rfl) (by rw [hW]; exact hl) hno k hk ?_
  rw [hW, show Proofs.Try.f12.results.toList = [.cell 2 30] by kernel_rfl]
  exact hv
abbrev F_sent : Nat := 13
noncomputable def b_sent : Code := Proofs.Try.f13.body.getD .skip
theorem in_sent {W : Way} (hW : W.nt = 22) {args : List AV} {H : List (Nat × Blk)} {r : AV} {H' : List (Nat × Blk)} (k : Nat) (hl : args.length ≤ 22) (hno : noTups args = true) (hk : ∀ id, look H id ≠ none → id < k)
    (hv : Holds C P 22 [] k (FunPost C 22 k [.cell 6 35] r H') (vc C W b_sent [] (start args H) lf)) : Fun C P F_sent args H r H' := by
  refine fun_of (W := W) ctx mixed (fn := Proofs.Try.f13) (c := b_sent) Proofs.Try.func13 (by kernel_rfl) (by kernel_rfl) (by kernel_rfl) (by rw [hW]; kernel_rfl) (by rw [hW]; exact hl) hno k hk ?_
  rw [hW, show Proofs.Try.f13.results.toList = [.cell 6 35] by kernel_rfl]
  exact hv
abbrev F_rsend : Nat := 14
noncomputable def b_rsend : Code := Proofs.Try.f14.body.getD .skip
theorem in_rsend {W : Way} (hW : W.nt = 46) {args : List AV} {H : List (Nat × Blk)} {r : AV} {H' : List (Nat × Blk)} (k : Nat) (hl : args.length ≤ 46) (hno : noTups args = true) (hk : ∀ id, look H id ≠ none → id < k)
    (hv : Holds C P 46 [] k (FunPost C 46 k [.cell 6 35] r H') (vc C W b_rsend [] (start args H) lf)) : Fun C P F_rsend args H r H' := by
  refine fun_of (W := W) ctx mixed (fn := Proofs.Try.f14) (c := b_rsend) Proofs.Try.func14 (by kernel_rfl) (by kernel_rfl) (by kernel_rfl) (by rw [hW]; kernel_rfl) (by rw [hW]; exact hl) hno k hk ?_
  rw [hW, show Proofs.Try.f14.results.toList = [.cell 6 35] by kernel_rfl]
  exact hv
abbrev F_same : Nat := 15
noncomputable def b_same : Code := Proofs.Try.f15.body.getD .skip
abbrev l_same_0 : List Nat := [1, 1, 0, 1, 0]
abbrev l_same_1 : List Nat := [1, 1, 1, 0, 1, 0]
theorem in_same {W : Way} (hW : W.nt = 66) {args : List AV} {H : List (Nat × Blk)} {r : AV} {H' : List (Nat × Blk)} (k : Nat) (hl : args.length ≤ 66) (hno : noTups args = true) (hk : ∀ id, look H id ≠ none → id < k)
    (hv : Holds C P 66 [] k (FunPost C 66 k [.tmp 4] r H') (vc C W b_same [] (start args H) lf)) : Fun C P F_same args H r H' := by
  refine fun_of (W := W) ctx mixed (fn := Proofs.Try.f15) (c := b_same) Proofs.Try.func15 (by kernel_rfl) (by kernel_rfl) (by kernel_rfl) (by rw [hW]; kernel_rfl) (by rw [hW]; exact hl) hno k hk ?_
  rw [hW, show Proofs.Try.f15.results.toList = [.tmp 4] by kernel_rfl]
  exact hv
abbrev F_sameT : Nat := 16
noncomputable def b_sameT : Code := Proofs.Try.f16.body.getD .skip
theorem in_sameT {W : Way} (hW : W.nt = 24) {args : List AV} {H : List (Nat × Blk)} {r : AV} {H' : List (Nat × Blk)} (k : Nat) (hl : args.length ≤ 24) (hno : noTups args = true) (hk : ∀ id, look H id ≠ none → id < k)
    (hv : Holds C P 24 [] k (FunPost C 24 k [.tmp 4] r H') (vc C W b_sameT [] (start args H) lf)) : Fun C P F_sameT args H r H' := by
  refine fun_of (W := W) ctx mixed (fn := Proofs.Try.f16) (c := b_sameT) Proofs.Try.func16 (by kernel_rfl) (by kernel_rfl) (by kernel_rfl) (by rw [hW]; kernel_rfl) (by rw [hW]; exact hl) hno k hk ?_
  rw [hW, show Proofs.Try.f16.results.toList = [.tmp 4] by kernel_rfl]
  exact hv
abbrev F_taken : Nat := 17
noncomputable def b_taken : Code := Proofs.Try.f17.body.getD .skip
theorem in_taken {W : Way} (hW : W.nt = 19) {args : List AV} {H : List (Nat × Blk)} {r : AV} {H' : List (Nat × Blk)} (k : Nat) (hl : args.length ≤ 19) (hno : noTups args = true) (hk : ∀ id, look H id ≠ none → id < k)
    (hv : Holds C P 19 [] k (FunPost C 19 k [.cell 4 40] r H') (vc C W b_taken [] (start args H) lf)) : Fun C P F_taken args H r H' := by
  refine fun_of (W := W) ctx mixed (fn := Proofs.Try.f17) (c := b_taken) Proofs.Try.func17 (by kernel_rfl) (by kernel_rfl) (by kernel_rfl) (by rw [hW]; kernel_rfl) (by rw [hW]; exact hl) hno k hk ?_
  rw [hW, show Proofs.Try.f17.results.toList = [.cell 4 40] by kernel_rfl]
  exact hv
abbrev F_rtake : Nat := 18
noncomputable def b_rtake : Code := Proofs.Try.f18.body.getD .skip
theorem in_rtake {W : Way} (hW : W.nt = 33) {args : List AV} {H : List (Nat × Blk)} {r : AV} {H' : List (Nat × Blk)} (k : Nat) (hl : args.length ≤ 33) (hno : noTups args = true) (hk : ∀ id, look H id ≠ none → id < k)
    (hv : Holds C P 33 [] k (FunPost C 33 k [.cell 4 40] r H') (vc C W b_rtake [] (start args H) lf)) : Fun C P F_rtake args H r H' := by
  refine fun_of (W := W) ctx mixed (fn := Proofs.Try.f18) (c := b_rtake) Proofs.Try.func18 (by kernel_rfl) (by kernel_rfl) (by kernel_rfl) (by rw [hW]; kernel_rfl) (by rw [hW]; exact hl) hno k hk ?_
  rw [hW, show Proofs.Try.f18.results.toList = [.cell 4 40] by kernel_rfl]
  exact hv
abbrev F_reach : Nat := 19
noncomputable def b_reach : Code := Proofs.Try.f19.body.getD .skip
theorem in_reach {W : Way} (hW : W.nt = 20) {args : List AV} {H : List (Nat × Blk)} {r : AV} {H' : List (Nat × Blk)} (k : Nat) (hl : args.length ≤ 20) (hno : noTups args = true) (hk : ∀ id, look H id ≠ none → id < k)
    (hv : Holds C P 20 [] k (FunPost C 20 k [.tmp 6] r H') (vc C W b_reach [] (start args H) lf)) : Fun C P F_reach args H r H' := by
  refine fun_of (W := W) ctx mixed (fn := Proofs.Try.f19) (c := b_reach) Proofs.Try.func19 (by kernel_rfl) (by kernel_rfl) (by kernel_rfl) (by rw [hW]; kernel_rfl) (by rw [hW]; exact hl) hno k hk ?_
  rw [hW, show Proofs.Try.f19.results.toList = [.tmp 6] by kernel_rfl]
  exact hv
abbrev F_rreach : Nat := 20
noncomputable def b_rreach : Code := Proofs.Try.f20.body.getD .skip
theorem in_rreach {W : Way} (hW : W.nt = 12) {args : List AV} {H : List (Nat × Blk)} {r : AV} {H' : List (Nat × Blk)} (k : Nat) (hl : args.length ≤ 12) (hno : noTups args = true) (hk : ∀ id, look H id ≠ none → id < k)
    (hv : Holds C P 12 [] k (FunPost C 12 k [.tmp 6] r H') (vc C W b_rreach [] (start args H) lf)) : Fun C P F_rreach args H r H' := by
  refine fun_of (W := W) ctx mixed (fn := Proofs.Try.f20) (c := b_rreach) Proofs.Try.func20 (by kernel_rfl) (by kernel_rfl) (by kernel_rfl) (by rw [hW]; kernel_rfl) (by rw [hW]; exact hl) hno k hk ?_
  rw [hW, show Proofs.Try.f20.results.toList = [.tmp 6] by kernel_rfl]
  exact hv
abbrev F_done : Nat := 21
noncomputable def b_done : Code := Proofs.Try.f21.body.getD .skip
theorem in_done {W : Way} (hW : W.nt = 52) {args : List AV} {H : List (Nat × Blk)} {r : AV} {H' : List (Nat × Blk)} (k : Nat) (hl : args.length ≤ 52) (hno : noTups args = true) (hk : ∀ id, look H id ≠ none → id < k)
    (hv : Holds C P 52 [] k (FunPost C 52 k [.cell 6 40] r H') (vc C W b_done [] (start args H) lf)) : Fun C P F_done args H r H' := by
  refine fun_of (W := W) ctx mixed (fn := Proofs.Try.f21) (c := b_done) Proofs.Try.func21 (by kernel_rfl) (by kernel_rfl) (by kernel_rfl) (by rw [hW]; kernel_rfl) (by rw [hW]; exact hl) hno k hk ?_
  rw [hW, show Proofs.Try.f21.results.toList = [.cell 6 40] by kernel_rfl]
  exact hv
abbrev F_rlose : Nat := 22
noncomputable def b_rlose : Code := Proofs.Try.f22.body.getD .skip
theorem in_rlose {W : Way} (hW : W.nt = 17) {args : List AV} {H : List (Nat × Blk)} {r : AV} {H' : List (Nat × Blk)} (k : Nat) (hl : args.length ≤ 17) (hno : noTups args = true) (hk : ∀ id, look H id ≠ none → id < k)
    (hv : Holds C P 17 [] k (FunPost C 17 k [.cell 4 40] r H') (vc C W b_rlose [] (start args H) lf)) : Fun C P F_rlose args H r H' := by
  refine fun_of (W := W) ctx mixed (fn := Proofs.Try.f22) (c := b_rlose) Proofs.Try.func22 (by kernel_rfl) (by kernel_rfl) (by kernel_rfl) (by rw [hW]; kernel_rfl) (by rw [hW]; exact hl) hno k hk ?_
  rw [hW, show Proofs.Try.f22.results.toList = [.cell 4 40] by kernel_rfl]
  exact hv
abbrev F_rdouble : Nat := 23
noncomputable def b_rdouble : Code := Proofs.Try.f23.body.getD .skip
theorem in_rdouble {W : Way} (hW : W.nt = 33) {args : List AV} {H : List (Nat × Blk)} {r : AV} {H' : List (Nat × Blk)} (k : Nat) (hl : args.length ≤ 33) (hno : noTups args = true) (hk : ∀ id, look H id ≠ none → id < k)
    (hv : Holds C P 33 [] k (FunPost C 33 k [.cell 4 40] r H') (vc C W b_rdouble [] (start args H) lf)) : Fun C P F_rdouble args H r H' := by
  refine fun_of (W := W) ctx mixed (fn := Proofs.Try.f23) (c := b_rdouble) Proofs.Try.func23 (by kernel_rfl) (by kernel_rfl) (by kernel_rfl) (by rw [hW]; kernel_rfl) (by rw [hW]; exact hl) hno k hk ?_
  rw [hW, show Proofs.Try.f23.results.toList = [.cell 4 40] by kernel_rfl]
  exact hv
abbrev F_rsever : Nat := 24
noncomputable def b_rsever : Code := Proofs.Try.f24.body.getD .skip
abbrev l_rsever_0 : List Nat := [1, 1, 1, 1, 1, 0, 0]
theorem in_rsever {W : Way} (hW : W.nt = 73) {args : List AV} {H : List (Nat × Blk)} {r : AV} {H' : List (Nat × Blk)} (k : Nat) (hl : args.length ≤ 73) (hno : noTups args = true) (hk : ∀ id, look H id ≠ none → id < k)
    (hv : Holds C P 73 [] k (FunPost C 73 k [.cell 6 40] r H') (vc C W b_rsever [] (start args H) lf)) : Fun C P F_rsever args H r H' := by
  refine fun_of (W := W) ctx mixed (fn := Proofs.Try.f24) (c := b_rsever) Proofs.Try.func24 (by kernel_rfl) (by kernel_rfl) (by kernel_rfl) (by rw [hW]; kernel_rfl) (by rw [hW]; exact hl) hno k hk ?_
  rw [hW, show Proofs.Try.f24.results.toList = [.cell 6 40] by kernel_rfl]
  exact hv
abbrev F_rheal : Nat := 25
noncomputable def b_rheal : Code := Proofs.Try.f25.body.getD .skip
theorem in_rheal {W : Way} (hW : W.nt = 42) {args : List AV} {H : List (Nat × Blk)} {r : AV} {H' : List (Nat × Blk)} (k : Nat) (hl : args.length ≤ 42) (hno : noTups args = true) (hk : ∀ id, look H id ≠ none → id < k)
    (hv : Holds C P 42 [] k (FunPost C 42 k [.cell 6 40] r H') (vc C W b_rheal [] (start args H) lf)) : Fun C P F_rheal args H r H' := by
  refine fun_of (W := W) ctx mixed (fn := Proofs.Try.f25) (c := b_rheal) Proofs.Try.func25 (by kernel_rfl) (by kernel_rfl) (by kernel_rfl) (by rw [hW]; kernel_rfl) (by rw [hW]; exact hl) hno k hk ?_
  rw [hW, show Proofs.Try.f25.results.toList = [.cell 6 40] by kernel_rfl]
  exact hv
abbrev F_valid : Nat := 26
noncomputable def b_valid : Code := Proofs.Try.f26.body.getD .skip
abbrev l_valid_0 : List Nat := [1, 1, 0, 1, 0]
abbrev l_valid_1 : List Nat := [1, 1, 1, 0, 1, 0]
theorem in_valid {W : Way} (hW : W.nt = 94) {args : List AV} {H : List (Nat × Blk)} {r : AV} {H' : List (Nat × Blk)} (k : Nat) (hl : args.length ≤ 94) (hno : noTups args = true) (hk : ∀ id, look H id ≠ none → id < k)
    (hv : Holds C P 94 [] k (FunPost C 94 k [.tmp 2] r H') (vc C W b_valid [] (start args H) lf)) : Fun C P F_valid args H r H' := by
  refine fun_of (W := W) ctx mixed (fn := Proofs.Try.f26) (c := b_valid) Proofs.Try.func26 (by kernel_rfl) (by kernel_rfl) (by kernel_rfl) (by rw [hW]; kernel_rfl) (by rw [hW]; exact hl) hno k hk ?_
  rw [hW, show Proofs.Try.f26.results.toList = [.tmp 2] by kernel_rfl]
  exact hv
abbrev F_rvalid : Nat := 27
noncomputable def b_rvalid : Code := Proofs.Try.f27.body.getD .skip
abbrev l_rvalid_0 : List Nat := [1, 0, 1, 0]
abbrev l_rvalid_1 : List Nat := [1, 1, 0, 1, 0]
theorem in_rvalid {W : Way} (hW : W.nt = 113) {args : List AV} {H : List (Nat × Blk)} {r : AV} {H' : List (Nat × Blk)} (k : Nat) (hl : args.length ≤ 113) (hno : noTups args = true) (hk : ∀ id, look H id ≠ none → id < k)
    (hv : Holds C P 113 [] k (FunPost C 113 k [.tmp 2] r H') (vc C W b_rvalid [] (start args H) lf)) : Fun C P F_rvalid args H r H' := by
  refine fun_of (W := W) ctx mixed (fn := Proofs.Try.f27) (c := b_rvalid) Proofs.Try.func27 (by kernel_rfl) (by kernel_rfl) (by kernel_rfl) (by rw [hW]; kernel_rfl) (by rw [hW]; exact hl) hno k hk ?_
  rw [hW, show Proofs.Try.f27.results.toList = [.tmp 2] by kernel_rfl]
  exact hv
abbrev F_step : Nat := 28
noncomputable def b_step : Code := Proofs.Try.f28.body.getD .skip
theorem in_step {W : Way} (hW : W.nt = 66) {args : List AV} {H : List (Nat × Blk)} {r : AV} {H' : List (Nat × Blk)} (k : Nat) (hl : args.length ≤ 66) (hno : noTups args = true) (hk : ∀ id, look H id ≠ none → id < k)
    (hv : Holds C P 66 [] k (FunPost C 66 k [.cell 4 30] r H') (vc C W b_step [] (start args H) lf)) : Fun C P F_step args H r H' := by
  refine fun_of (W := W) ctx mixed (fn := Proofs.Try.f28) (c := b_step) Proofs.Try.func28 (by kernel_rfl) (by kernel_rfl) (by kernel_rfl) (by rw [hW]; kernel_rfl) (by rw [hW]; exact hl) hno k hk ?_
  rw [hW, show Proofs.Try.f28.results.toList = [.cell 4 30] by kernel_rfl]
  exact hv
abbrev F_send : Nat := 29
noncomputable def b_send : Code := Proofs.Try.f29.body.getD .skip
theorem in_send {W : Way} (hW : W.nt = 30) {args : List AV} {H : List (Nat × Blk)} {r : AV} {H' : List (Nat × Blk)} (k : Nat) (hl : args.length ≤ 30) (hno : noTups args = true) (hk : ∀ id, look H id ≠ none → id < k)
    (hv : Holds C P 30 [] k (FunPost C 30 k [.cell 6 30, .tmp 7, .tmp 8] r H') (vc C W b_send [] (start args H) lf)) : Fun C P F_send args H r H' := by
  refine fun_of (W := W) ctx mixed (fn := Proofs.Try.f29) (c := b_send) Proofs.Try.func29 (by kernel_rfl) (by kernel_rfl) (by kernel_rfl) (by rw [hW]; kernel_rfl) (by rw [hW]; exact hl) hno k hk ?_
  rw [hW, show Proofs.Try.f29.results.toList = [.cell 6 30, .tmp 7, .tmp 8] by kernel_rfl]
  exact hv
abbrev F_rparts : Nat := 30
noncomputable def b_rparts : Code := Proofs.Try.f30.body.getD .skip
theorem in_rparts {W : Way} (hW : W.nt = 16) {args : List AV} {H : List (Nat × Blk)} {r : AV} {H' : List (Nat × Blk)} (k : Nat) (hl : args.length ≤ 16) (hno : noTups args = true) (hk : ∀ id, look H id ≠ none → id < k)
    (hv : Holds C P 16 [] k (FunPost C 16 k [.tmp 4] r H') (vc C W b_rparts [] (start args H) lf)) : Fun C P F_rparts args H r H' := by
  refine fun_of (W := W) ctx mixed (fn := Proofs.Try.f30) (c := b_rparts) Proofs.Try.func30 (by kernel_rfl) (by kernel_rfl) (by kernel_rfl) (by rw [hW]; kernel_rfl) (by rw [hW]; exact hl) hno k hk ?_
  rw [hW, show Proofs.Try.f30.results.toList = [.tmp 4] by kernel_rfl]
  exact hv
abbrev F_take : Nat := 31
noncomputable def b_take : Code := Proofs.Try.f31.body.getD .skip
theorem in_take {W : Way} (hW : W.nt = 43) {args : List AV} {H : List (Nat × Blk)} {r : AV} {H' : List (Nat × Blk)} (k : Nat) (hl : args.length ≤ 43) (hno : noTups args = true) (hk : ∀ id, look H id ≠ none → id < k)
    (hv : Holds C P 43 [] k (FunPost C 43 k [.cell 4 30, .cell 5 25, .tmp 6] r H') (vc C W b_take [] (start args H) lf)) : Fun C P F_take args H r H' := by
  refine fun_of (W := W) ctx mixed (fn := Proofs.Try.f31) (c := b_take) Proofs.Try.func31 (by kernel_rfl) (by kernel_rfl) (by kernel_rfl) (by rw [hW]; kernel_rfl) (by rw [hW]; exact hl) hno k hk ?_
  rw [hW, show Proofs.Try.f31.results.toList = [.cell 4 30, .cell 5 25, .tmp 6] by kernel_rfl]
  exact hv
abbrev F_rfind : Nat := 32
noncomputable def b_rfind : Code := Proofs.Try.f32.body.getD .skip
abbrev l_rfind_0 : List Nat := [1, 0, 1, 0]
theorem in_rfind {W : Way} (hW : W.nt = 22) {args : List AV} {H : List (Nat × Blk)} {r : AV} {H' : List (Nat × Blk)} (k : Nat) (hl : args.length ≤ 22) (hno : noTups args = true) (hk : ∀ id, look H id ≠ none → id < k)
    (hv : Holds C P 22 [] k (FunPost C 22 k [.tmp 4] r H') (vc C W b_rfind [] (start args H) lf)) : Fun C P F_rfind args H r H' := by
  refine fun_of (W := W) ctx mixed (fn := Proofs.Try.f32) (c := b_rfind) Proofs.Try.func32 (by kernel_rfl) (by kernel_rfl) (by kernel_rfl) (by rw [hW]; kernel_rfl) (by rw [hW]; exact hl) hno k hk ?_
  rw [hW, show Proofs.Try.f32.results.toList = [.tmp 4] by kernel_rfl]
  exact hv
abbrev F_without : Nat := 33
noncomputable def b_without : Code := Proofs.Try.f33.body.getD .skip
theorem in_without {W : Way} (hW : W.nt = 24) {args : List AV} {H : List (Nat × Blk)} {r : AV} {H' : List (Nat × Blk)} (k : Nat) (hl : args.length ≤ 24) (hno : noTups args = true) (hk : ∀ id, look H id ≠ none → id < k)
    (hv : Holds C P 24 [] k (FunPost C 24 k [.cell 4 30] r H') (vc C W b_without [] (start args H) lf)) : Fun C P F_without args H r H' := by
  refine fun_of (W := W) ctx mixed (fn := Proofs.Try.f33) (c := b_without) Proofs.Try.func33 (by kernel_rfl) (by kernel_rfl) (by kernel_rfl) (by rw [hW]; kernel_rfl) (by rw [hW]; exact hl) hno k hk ?_
  rw [hW, show Proofs.Try.f33.results.toList = [.cell 4 30] by kernel_rfl]
  exact hv
abbrev F_bsP : Nat := 34
noncomputable def b_bsP : Code := Proofs.Try.f34.body.getD .skip
abbrev l_bsP_0 : List Nat := [1, 1, 1, 0, 0]
theorem in_bsP {W : Way} (hW : W.nt = 49) {args : List AV} {H : List (Nat × Blk)} {r : AV} {H' : List (Nat × Blk)} (k : Nat) (hl : args.length ≤ 49) (hno : noTups args = true) (hk : ∀ id, look H id ≠ none → id < k)
    (hv : Holds C P 49 [] k (FunPost C 49 k [.tmp 6, .tmp 7] r H') (vc C W b_bsP [] (start args H) lf)) : Fun C P F_bsP args H r H' := by
  refine fun_of (W := W) ctx mixed (fn := Proofs.Try.f34) (c := b_bsP) Proofs.Try.func34 (by kernel_rfl) (by kernel_rfl) (by kernel_rfl) (by rw [hW]; kernel_rfl) (by rw [hW]; exact hl) hno k hk ?_
  rw [hW, show Proofs.Try.f34.results.toList = [.tmp 6, .tmp 7] by kernel_rfl]
  exact hv
abbrev F_ofP : Nat := 35
noncomputable def b_ofP : Code := Proofs.Try.f35.body.getD .skip
theorem in_ofP {W : Way} (hW : W.nt = 12) {args : List AV} {H : List (Nat × Blk)} {r : AV} {H' : List (Nat × Blk)} (k : Nat) (hl : args.length ≤ 12) (hno : noTups args = true) (hk : ∀ id, look H id ≠ none → id < k)
    (hv : Holds C P 12 [] k (FunPost C 12 k [.cell 4 32] r H') (vc C W b_ofP [] (start args H) lf)) : Fun C P F_ofP args H r H' := by
  refine fun_of (W := W) ctx mixed (fn := Proofs.Try.f35) (c := b_ofP) Proofs.Try.func35 (by kernel_rfl) (by kernel_rfl) (by kernel_rfl) (by rw [hW]; kernel_rfl) (by rw [hW]; exact hl) hno k hk ?_
  rw [hW, show Proofs.Try.f35.results.toList = [.cell 4 32] by kernel_rfl]
  exact hv
abbrev F_order : Nat := 36
noncomputable def b_order : Code := Proofs.Try.f36.body.getD .skip
theorem in_order {W : Way} (hW : W.nt = 17) {args : List AV} {H : List (Nat × Blk)} {r : AV} {H' : List (Nat × Blk)} (k : Nat) (hl : args.length ≤ 17) (hno : noTups args = true) (hk : ∀ id, look H id ≠ none → id < k)
    (hv : Holds C P 17 [] k (FunPost C 17 k [.tmp 4] r H') (vc C W b_order [] (start args H) lf)) : Fun C P F_order args H r H' := by
  refine fun_of (W := W) ctx mixed (fn := Proofs.Try.f36) (c := b_order) Proofs.Try.func36 (by kernel_rfl) (by kernel_rfl) (by kernel_rfl) (by rw [hW]; kernel_rfl) (by rw [hW]; exact hl) hno k hk ?_
  rw [hW, show Proofs.Try.f36.results.toList = [.tmp 4] by kernel_rfl]
  exact hv
abbrev F_rcut : Nat := 37
noncomputable def b_rcut : Code := Proofs.Try.f37.body.getD .skip
abbrev l_rcut_0 : List Nat := [1, 0, 1, 0]
theorem in_rcut {W : Way} (hW : W.nt = 29) {args : List AV} {H : List (Nat × Blk)} {r : AV} {H' : List (Nat × Blk)} (k : Nat) (hl : args.length ≤ 29) (hno : noTups args = true) (hk : ∀ id, look H id ≠ none → id < k)
    (hv : Holds C P 29 [] k (FunPost C 29 k [.tmp 6] r H') (vc C W b_rcut [] (start args H) lf)) : Fun C P F_rcut args H r H' := by
  refine fun_of (W := W) ctx mixed (fn := Proofs.Try.f37) (c := b_rcut) Proofs.Try.func37 (by kernel_rfl) (by kernel_rfl) (by kernel_rfl) (by rw [hW]; kernel_rfl) (by rw [hW]; exact hl) hno k hk ?_
  rw [hW, show Proofs.Try.f37.results.toList = [.tmp 6] by kernel_rfl]
  exact hv
abbrev F_lose : Nat := 38
noncomputable def b_lose : Code := Proofs.Try.f38.body.getD .skip
theorem in_lose {W : Way} (hW : W.nt = 27) {args : List AV} {H : List (Nat × Blk)} {r : AV} {H' : List (Nat × Blk)} (k : Nat) (hl : args.length ≤ 27) (hno : noTups args = true) (hk : ∀ id, look H id ≠ none → id < k)
    (hv : Holds C P 27 [] k (FunPost C 27 k [.cell 4 30, .tmp 5] r H') (vc C W b_lose [] (start args H) lf)) : Fun C P F_lose args H r H' := by
  refine fun_of (W := W) ctx mixed (fn := Proofs.Try.f38) (c := b_lose) Proofs.Try.func38 (by kernel_rfl) (by kernel_rfl) (by kernel_rfl) (by rw [hW]; kernel_rfl) (by rw [hW]; exact hl) hno k hk ?_
  rw [hW, show Proofs.Try.f38.results.toList = [.cell 4 30, .tmp 5] by kernel_rfl]
  exact hv
abbrev F_double : Nat := 39
noncomputable def b_double : Code := Proofs.Try.f39.body.getD .skip
theorem in_double {W : Way} (hW : W.nt = 34) {args : List AV} {H : List (Nat × Blk)} {r : AV} {H' : List (Nat × Blk)} (k : Nat) (hl : args.length ≤ 34) (hno : noTups args = true) (hk : ∀ id, look H id ≠ none → id < k)
    (hv : Holds C P 34 [] k (FunPost C 34 k [.cell 4 30, .tmp 5] r H') (vc C W b_double [] (start args H) lf)) : Fun C P F_double args H r H' := by
  refine fun_of (W := W) ctx mixed (fn := Proofs.Try.f39) (c := b_double) Proofs.Try.func39 (by kernel_rfl) (by kernel_rfl) (by kernel_rfl) (by rw [hW]; kernel_rfl) (by rw [hW]; exact hl) hno k hk ?_
  rw [hW, show Proofs.Try.f39.results.toList = [.cell 4 30, .tmp 5] by kernel_rfl]
  exact hv
abbrev F_sever : Nat := 40
noncomputable def b_sever : Code := Proofs.Try.f40.body.getD .skip
theorem in_sever {W : Way} (hW : W.nt = 44) {args : List AV} {H : List (Nat × Blk)} {r : AV} {H' : List (Nat × Blk)} (k : Nat) (hl : args.length ≤ 44) (hno : noTups args = true) (hk : ∀ id, look H id ≠ none → id < k)
    (hv : Holds C P 44 [] k (FunPost C 44 k [.cell 6 30, .tmp 7] r H') (vc C W b_sever [] (start args H) lf)) : Fun C P F_sever args H r H' := by
  refine fun_of (W := W) ctx mixed (fn := Proofs.Try.f40) (c := b_sever) Proofs.Try.func40 (by kernel_rfl) (by kernel_rfl) (by kernel_rfl) (by rw [hW]; kernel_rfl) (by rw [hW]; exact hl) hno k hk ?_
  rw [hW, show Proofs.Try.f40.results.toList = [.cell 6 30, .tmp 7] by kernel_rfl]
  exact hv
abbrev F_heal : Nat := 41
noncomputable def b_heal : Code := Proofs.Try.f41.body.getD .skip
theorem in_heal {W : Way} (hW : W.nt = 20) {args : List AV} {H : List (Nat × Blk)} {r : AV} {H' : List (Nat × Blk)} (k : Nat) (hl : args.length ≤ 20) (hno : noTups args = true) (hk : ∀ id, look H id ≠ none → id < k)
    (hv : Holds C P 20 [] k (FunPost C 20 k [.cell 6 30, .tmp 7] r H') (vc C W b_heal [] (start args H) lf)) : Fun C P F_heal args H r H' := by
  refine fun_of (W := W) ctx mixed (fn := Proofs.Try.f41) (c := b_heal) Proofs.Try.func41 (by kernel_rfl) (by kernel_rfl) (by kernel_rfl) (by rw [hW]; kernel_rfl) (by rw [hW]; exact hl) hno k hk ?_
  rw [hW, show Proofs.Try.f41.results.toList = [.cell 6 30, .tmp 7] by kernel_rfl]
  exact hv
abbrev F_less : Nat := 42
noncomputable def b_less : Code := Proofs.Try.f42.body.getD .skip
theorem in_less {W : Way} (hW : W.nt = 24) {args : List AV} {H : List (Nat × Blk)} {r : AV} {H' : List (Nat × Blk)} (k : Nat) (hl : args.length ≤ 24) (hno : noTups args = true) (hk : ∀ id, look H id ≠ none → id < k)
    (hv : Holds C P 24 [] k (FunPost C 24 k [.tmp 4] r H') (vc C W b_less [] (start args H) lf)) : Fun C P F_less args H r H' := by
  refine fun_of (W := W) ctx mixed (fn := Proofs.Try.f42) (c := b_less) Proofs.Try.func42 (by kernel_rfl) (by kernel_rfl) (by kernel_rfl) (by rw [hW]; kernel_rfl) (by rw [hW]; exact hl) hno k hk ?_
  rw [hW, show Proofs.Try.f42.results.toList = [.tmp 4] by kernel_rfl]
  exact hv
abbrev F_parts : Nat := 43
noncomputable def b_parts : Code := Proofs.Try.f43.body.getD .skip
theorem in_parts {W : Way} (hW : W.nt = 24) {args : List AV} {H : List (Nat × Blk)} {r : AV} {H' : List (Nat × Blk)} (k : Nat) (hl : args.length ≤ 24) (hno : noTups args = true) (hk : ∀ id, look H id ≠ none → id < k)
    (hv : Holds C P 24 [] k (FunPost C 24 k [.tmp 4] r H') (vc C W b_parts [] (start args H) lf)) : Fun C P F_parts args H r H' := by
  refine fun_of (W := W) ctx mixed (fn := Proofs.Try.f43) (c := b_parts) Proofs.Try.func43 (by kernel_rfl) (by kernel_rfl) (by kernel_rfl) (by rw [hW]; kernel_rfl) (by rw [hW]; exact hl) hno k hk ?_
  rw [hW, show Proofs.Try.f43.results.toList = [.tmp 4] by kernel_rfl]
  exact hv
abbrev F_add : Nat := 44
noncomputable def b_add : Code := Proofs.Try.f44.body.getD .skip
theorem in_add {W : Way} (hW : W.nt = 34) {args : List AV} {H : List (Nat × Blk)} {r : AV} {H' : List (Nat × Blk)} (k : Nat) (hl : args.length ≤ 34) (hno : noTups args = true) (hk : ∀ id, look H id ≠ none → id < k)
    (hv : Holds C P 34 [] k (FunPost C 34 k [.cell 6 30, .tmp 7] r H') (vc C W b_add [] (start args H) lf)) : Fun C P F_add args H r H' := by
  refine fun_of (W := W) ctx mixed (fn := Proofs.Try.f44) (c := b_add) Proofs.Try.func44 (by kernel_rfl) (by kernel_rfl) (by kernel_rfl) (by rw [hW]; kernel_rfl) (by rw [hW]; exact hl) hno k hk ?_
  rw [hW, show Proofs.Try.f44.results.toList = [.cell 6 30, .tmp 7] by kernel_rfl]
  exact hv
abbrev F_rpart : Nat := 45
noncomputable def b_rpart : Code := Proofs.Try.f45.body.getD .skip
theorem in_rpart {W : Way} (hW : W.nt = 9) {args : List AV} {H : List (Nat × Blk)} {r : AV} {H' : List (Nat × Blk)} (k : Nat) (hl : args.length ≤ 9) (hno : noTups args = true) (hk : ∀ id, look H id ≠ none → id < k)
    (hv : Holds C P 9 [] k (FunPost C 9 k [.tmp 2] r H') (vc C W b_rpart [] (start args H) lf)) : Fun C P F_rpart args H r H' := by
  refine fun_of (W := W) ctx mixed (fn := Proofs.Try.f45) (c := b_rpart) Proofs.Try.func45 (by kernel_rfl) (by kernel_rfl) (by kernel_rfl) (by rw [hW]; kernel_rfl) (by rw [hW]; exact hl) hno k hk ?_
  rw [hW, show Proofs.Try.f45.results.toList = [.tmp 2] by kernel_rfl]
  exact hv
abbrev F_find : Nat := 46
noncomputable def b_find : Code := Proofs.Try.f46.body.getD .skip
theorem in_find {W : Way} (hW : W.nt = 18) {args : List AV} {H : List (Nat × Blk)} {r : AV} {H' : List (Nat × Blk)} (k : Nat) (hl : args.length ≤ 18) (hno : noTups args = true) (hk : ∀ id, look H id ≠ none → id < k)
    (hv : Holds C P 18 [] k (FunPost C 18 k [.tmp 4, .tmp 5] r H') (vc C W b_find [] (start args H) lf)) : Fun C P F_find args H r H' := by
  refine fun_of (W := W) ctx mixed (fn := Proofs.Try.f46) (c := b_find) Proofs.Try.func46 (by kernel_rfl) (by kernel_rfl) (by kernel_rfl) (by rw [hW]; kernel_rfl) (by rw [hW]; exact hl) hno k hk ?_
  rw [hW, show Proofs.Try.f46.results.toList = [.tmp 4, .tmp 5] by kernel_rfl]
  exact hv
abbrev F_cmpOr : Nat := 47
noncomputable def b_cmpOr : Code := Proofs.Try.f47.body.getD .skip
abbrev l_cmpOr_0 : List Nat := [1, 1, 0, 1, 0]
theorem in_cmpOr {W : Way} (hW : W.nt = 18) {args : List AV} {H : List (Nat × Blk)} {r : AV} {H' : List (Nat × Blk)} (k : Nat) (hl : args.length ≤ 18) (hno : noTups args = true) (hk : ∀ id, look H id ≠ none → id < k)
    (hv : Holds C P 18 [] k (FunPost C 18 k [.tmp 2] r H') (vc C W b_cmpOr [] (start args H) lf)) : Fun C P F_cmpOr args H r H' := by
  refine fun_of (W := W) ctx mixed (fn := Proofs.Try.f47) (c := b_cmpOr) Proofs.Try.func47 (by kernel_rfl) (by kernel_rfl) (by kernel_rfl) (by rw [hW]; kernel_rfl) (by rw [hW]; exact hl) hno k hk ?_
  rw [hW, show Proofs.Try.f47.results.toList = [.tmp 2] by kernel_rfl]
  exact hv
abbrev F_cmpC : Nat := 48
noncomputable def b_cmpC : Code := Proofs.Try.f48.body.getD .skip
theorem in_cmpC {W : Way} (hW : W.nt = 20) {args : List AV} {H : List (Nat × Blk)} {r : AV} {H' : List (Nat × Blk)} (k : Nat) (hl : args.length ≤ 20) (hno : noTups args = true) (hk : ∀ id, look H id ≠ none → id < k)
    (hv : Holds C P 20 [] k (FunPost C 20 k [.tmp 4] r H') (vc C W b_cmpC [] (start args H) lf)) : Fun C P F_cmpC args H r H' := by
  refine fun_of (W := W) ctx mixed (fn := Proofs.Try.f48) (c := b_cmpC) Proofs.Try.func48 (by kernel_rfl) (by kernel_rfl) (by kernel_rfl) (by rw [hW]; kernel_rfl) (by rw [hW]; exact hl) hno k hk ?_
  rw [hW, show Proofs.Try.f48.results.toList = [.tmp 4] by kernel_rfl]
  exact hv
abbrev F_delK : Nat := 49
noncomputable def b_delK : Code := Proofs.Try.f49.body.getD .skip
theorem in_delK {W : Way} (hW : W.nt = 33) {args : List AV} {H : List (Nat × Blk)} {r : AV} {H' : List (Nat × Blk)} (k : Nat) (hl : args.length ≤ 33) (hno : noTups args = true) (hk : ∀ id, look H id ≠ none → id < k)
    (hv : Holds C P 33 [] k (FunPost C 33 k [.tmp 6] r H') (vc C W b_delK [] (start args H) lf)) : Fun C P F_delK args H r H' := by
  refine fun_of (W := W) ctx mixed (fn := Proofs.Try.f49) (c := b_delK) Proofs.Try.func49 (by kernel_rfl) (by kernel_rfl) (by kernel_rfl) (by rw [hW]; kernel_rfl) (by rw [hW]; exact hl) hno k hk ?_
  rw [hW, show Proofs.Try.f49.results.toList = [.tmp 6] by kernel_rfl]
  exact hv
abbrev F_cloneK : Nat := 50
noncomputable def b_cloneK : Code := Proofs.Try.f50.body.getD .skip
theorem in_cloneK {W : Way} (hW : W.nt = 8) {args : List AV} {H : List (Nat × Blk)} {r : AV} {H' : List (Nat × Blk)} (k : Nat) (hl : args.length ≤ 8) (hno : noTups args = true) (hk : ∀ id, look H id ≠ none → id < k)
    (hv : Holds C P 8 [] k (FunPost C 8 k [.tmp 2] r H') (vc C W b_cloneK [] (start args H) lf)) : Fun C P F_cloneK args H r H' := by
  refine fun_of (W := W) ctx mixed (fn := Proofs.Try.f50) (c := b_cloneK) Proofs.Try.func50 (by kernel_rfl) (by kernel_rfl) (by kernel_rfl) (by rw [hW]; kernel_rfl) (by rw [hW]; exact hl) hno k hk ?_
  rw [hW, show Proofs.Try.f50.results.toList = [.tmp 2] by kernel_rfl]
  exact hv
abbrev F_insP : Nat := 51
noncomputable def b_insP : Code := Proofs.Try.f51.body.getD .skip
theorem in_insP {W : Way} (hW : W.nt = 95) {args : List AV} {H : List (Nat × Blk)} {r : AV} {H' : List (Nat × Blk)} (k : Nat) (hl : args.length ≤ 95) (hno : noTups args = true) (hk : ∀ id, look H id ≠ none → id < k)
    (hv : Holds C P 95 [] k (FunPost C 95 k [.tmp 6] r H') (vc C W b_insP [] (start args H) lf)) : Fun C P F_insP args H r H' := by
  refine fun_of (W := W) ctx mixed (fn := Proofs.Try.f51) (c := b_insP) Proofs.Try.func51 (by kernel_rfl) (by kernel_rfl) (by kernel_rfl) (by rw [hW]; kernel_rfl) (by rw [hW]; exact hl) hno k hk ?_
  rw [hW, show Proofs.Try.f51.results.toList = [.tmp 6] by kernel_rfl]
  exact hv
abbrev F_cloneP : Nat := 52
noncomputable def b_cloneP : Code := Proofs.Try.f52.body.getD .skip
theorem in_cloneP {W : Way} (hW : W.nt = 8) {args : List AV} {H : List (Nat × Blk)} {r : AV} {H' : List (Nat × Blk)} (k : Nat) (hl : args.length ≤ 8) (hno : noTups args = true) (hk : ∀ id, look H id ≠ none → id < k)
    (hv : Holds C P 8 [] k (FunPost C 8 k [.tmp 2] r H') (vc C W b_cloneP [] (start args H) lf)) : Fun C P F_cloneP args H r H' := by
  refine fun_of (W := W) ctx mixed (fn := Proofs.Try.f52) (c := b_cloneP) Proofs.Try.func52 (by kernel_rfl) (by kernel_rfl) (by kernel_rfl) (by rw [hW]; kernel_rfl) (by rw [hW]; exact hl) hno k hk ?_
  rw [hW, show Proofs.Try.f52.results.toList = [.tmp 2] by kernel_rfl]
  exact hv
abbrev F_delfP : Nat := 53
noncomputable def b_delfP : Code := Proofs.Try.f53.body.getD .skip
abbrev l_delfP_0 : List Nat := [1, 1, 1, 0, 1, 0]
theorem in_delfP {W : Way} (hW : W.nt = 42) {args : List AV} {H : List (Nat × Blk)} {r : AV} {H' : List (Nat × Blk)} (k : Nat) (hl : args.length ≤ 42) (hno : noTups args = true) (hk : ∀ id, look H id ≠ none → id < k)
    (hv : Holds C P 42 [] k (FunPost C 42 k [.tmp 4] r H') (vc C W b_delfP [] (start args H) lf)) : Fun C P F_delfP args H r H' := by
  refine fun_of (W := W) ctx mixed (fn := Proofs.Try.f53) (c := b_delfP) Proofs.Try.func53 (by kernel_rfl) (by kernel_rfl) (by kernel_rfl) (by rw [hW]; kernel_rfl) (by rw [hW]; exact hl) hno k hk ?_
  rw [hW, show Proofs.Try.f53.results.toList = [.tmp 4] by kernel_rfl]
  exact hv
abbrev F_heal1 : Nat := 54
noncomputable def b_heal1 : Code := Proofs.Try.f54.body.getD .skip
theorem in_heal1 {W : Way} (hW : W.nt = 10) {args : List AV} {H : List (Nat × Blk)} {r : AV} {H' : List (Nat × Blk)} (k : Nat) (hl : args.length ≤ 10) (hno : noTups args = true) (hk : ∀ id, look H id ≠ none → id < k)
    (hv : Holds C P 10 [] k (FunPost C 10 k [.tmp 4] r H') (vc C W b_heal1 [] (start args H) lf)) : Fun C P F_heal1 args H r H' := by
  refine fun_of (W := W) ctx mixed (fn := Proofs.Try.f54) (c := b_heal1) Proofs.Try.func54 (by kernel_rfl) (by kernel_rfl) (by kernel_rfl) (by rw [hW]; kernel_rfl) (by rw [hW]; exact hl) hno k hk ?_
  rw [hW, show Proofs.Try.f54.results.toList = [.tmp 4] by kernel_rfl]
  exact hv
abbrev F_bsK : Nat := 55
noncomputable def b_bsK : Code := Proofs.Try.f55.body.getD .skip
abbrev l_bsK_0 : List Nat := [1, 1, 1, 0, 0]
theorem in_bsK {W : Way} (hW : W.nt = 49) {args : List AV} {H : List (Nat × Blk)} {r : AV} {H' : List (Nat × Blk)} (k : Nat) (hl : args.length ≤ 49) (hno : noTups args = true) (hk : ∀ id, look H id ≠ none → id < k)
    (hv : Holds C P 49 [] k (FunPost C 49 k [.tmp 6, .tmp 7] r H') (vc C W b_bsK [] (start args H) lf)) : Fun C P F_bsK args H r H' := by
  refine fun_of (W := W) ctx mixed (fn := Proofs.Try.f55) (c := b_bsK) Proofs.Try.func55 (by kernel_rfl) (by kernel_rfl) (by kernel_rfl) (by rw [hW]; kernel_rfl) (by rw [hW]; exact hl) hno k hk ?_
  rw [hW, show Proofs.Try.f55.results.toList = [.tmp 6, .tmp 7] by kernel_rfl]
  exact hv
abbrev F_find1 : Nat := 56
noncomputable def b_find1 : Code := Proofs.Try.f56.body.getD .skip
theorem in_find1 {W : Way} (hW : W.nt = 9) {args : List AV} {H : List (Nat × Blk)} {r : AV} {H' : List (Nat × Blk)} (k : Nat) (hl : args.length ≤ 9) (hno : noTups args = true) (hk : ∀ id, look H id ≠ none → id < k)
    (hv : Holds C P 9 [] k (FunPost C 9 k [.tmp 4] r H') (vc C W b_find1 [] (start args H) lf)) : Fun C P F_find1 args H r H' := by
  refine fun_of (W := W) ctx mixed (fn := Proofs.Try.f56) (c := b_find1) Proofs.Try.func56 (by kernel_rfl) (by kernel_rfl) (by kernel_rfl) (by rw [hW]; kernel_rfl) (by rw [hW]; exact hl) hno k hk ?_
  rw [hW, show Proofs.Try.f56.results.toList = [.tmp 4] by kernel_rfl]
  exact hv
abbrev F_isnan : Nat := 57
noncomputable def b_isnan : Code := Proofs.Try.f57.body.getD .skip
theorem in_isnan {W : Way} (hW : W.nt = 6) {args : List AV} {H : List (Nat × Blk)} {r : AV} {H' : List (Nat × Blk)} (k : Nat) (hl : args.length ≤ 6) (hno : noTups args = true) (hk : ∀ id, look H id ≠ none → id < k)
    (hv : Holds C P 6 [] k (FunPost C 6 k [.tmp 2] r H') (vc C W b_isnan [] (start args H) lf)) : Fun C P F_isnan args H r H' := by
  refine fun_of (W := W) ctx mixed (fn := Proofs.Try.f57) (c := b_isnan) Proofs.Try.func57 (by kernel_rfl) (by kernel_rfl) (by kernel_rfl) (by rw [hW]; kernel_rfl) (by rw [hW]; exact hl) hno k hk ?_
  rw [hW, show Proofs.Try.f57.results.toList = [.tmp 2] by kernel_rfl]
  exact hv
abbrev F_idxP : Nat := 60
noncomputable def b_idxP : Code := Proofs.Try.f60.body.getD .skip
abbrev l_idxP_0 : List Nat := [1, 0, 1, 0]
theorem in_idxP {W : Way} (hW : W.nt = 19) {args : List AV} {H : List (Nat × Blk)} {r : AV} {H' : List (Nat × Blk)} (k : Nat) (hl : args.length ≤ 19) (hno : noTups args = true) (hk : ∀ id, look H id ≠ none → id < k)
    (hv : Holds C P 19 [] k (FunPost C 19 k [.tmp 4] r H') (vc C W b_idxP [] (start args H) lf)) : Fun C P F_idxP args H r H' := by
  refine fun_of (W := W) ctx mixed (fn := Proofs.Try.f60) (c := b_idxP) Proofs.Try.func60 (by kernel_rfl) (by kernel_rfl) (by kernel_rfl) (by rw [hW]; kernel_rfl) (by rw [hW]; exact hl) hno k hk ?_
  rw [hW, show Proofs.Try.f60.results.toList = [.tmp 4] by kernel_rfl]
  exact hv
end Go.Bu.W

namespace Go.Bu.W
abbrev PI : Type := Int × Int
abbrev Pk : Type := Int × Int × Int
/-- What the shapes of two packets owe. -/
abbrev ShK : Prop := (((true = true) ∧ (true = true)) ∧ (((true = true) ∧ (true = true)) ∧ (((true = true) ∧ (true = true)) ∧ True)))
@[simp] theorem ShK_t : ShK = True := by simp
def two {α : Type} (a b : α) : Nat → α
  | 0 => a
  | _ + 1 => b
abbrev prA (p : PI) : AV := .arr 2 1 (fun j => .i (two p.1 p.2 j))
abbrev pkA (p : Pk) : AV := .st [.i p.1, .i p.2.1, .i p.2.2]
abbrev pAt (l : List PI) (i : Nat) : PI := l.getD i (0, 0)
abbrev kAt (l : List Pk) (i : Nat) : Pk := l.getD i (0, 0, 0)
abbrev dP (ex : Bool) (l : List PI) : AV := .dat l.length ex 2 (fun i => prA (pAt l i))
abbrev dK (ex : Bool) (l : List Pk) : AV := .dat l.length ex 3 (fun i => pkA (kAt l i))
structure Net where
  fly : List Pk
  cuts : List PI
  next : Int
abbrev netA (e1 e2 : Bool) (n : Net) : AV := .st [dK e1 n.fly, dP e2 n.cuts, .i n.next]
def toP : AV → PI
  | .arr _ _ f => (asI (f 0), asI (f 1))
  | _ => (0, 0)
def toK : AV → Pk
  | .st [a, b, c] => (asI a, asI b, asI c)
  | _ => (0, 0, 0)
def toPL (n : Nat) (f : Nat → AV) : List PI := (List.range n).map fun i => toP (f i)
def toKL (n : Nat) (f : Nat → AV) : List Pk := (List.range n).map fun i => toK (f i)
def cmpI (a b : Int) : Int := if a < b then -1 else if b < a then 1 else 0
def orI (a b : Int) : Int := if a ≠ 0 then a else b
def ordP (x y : PI) : Int := orI (cmpI x.1 y.1) (cmpI x.2 y.2)
def ofI (a b : Int) : PI := (min a b, max a b)
def partsB (a b : Int) : Bool := decide (0 ≤ a) && decide (0 ≤ b) && decide (a ≤ 1000000000) && decide (b ≤ 1000000000) && decide (a ≠ b)
def bsI {α : Type} (c : α → Int) (l : List α) : Nat := (l.takeWhile fun y => decide (c y < 0)).length
def bsB {α : Type} (c : α → Int) (l : List α) : Bool := l.any fun y => decide (c y = 0)
def sel (b : Bool) (x y : Option (AV × List (Nat × Blk))) : Option (AV × List (Nat × Blk)) := match b with | true => x | false => y
def crCmp : List AV → Option (AV × List (Nat × Blk))
  | [a, b] => some (.i (cmpI (asI a) (asI b)), [])
  | _ => none
def crOr : List AV → Option (AV × List (Nat × Blk))
  | [.dat _ _ _ f] => some (.i (orI (asI (f 0)) (asI (f 1))), [])
  | _ => none
def crOrder : List AV → Option (AV × List (Nat × Blk))
  | [x, y] => some (.i (ordP (toP x) (toP y)), [])
  | _ => none
def crFind1 : List AV → Option (AV × List (Nat × Blk))
  | [x, y] => some (.i (cmpI (toK x).1 (asI y)), [])
  | _ => none
def crBsP : List AV → Option (AV × List (Nat × Blk))
  | [.dat n _ _ f, x, _] => some (.tup [.i (bsI (fun y => ordP y (toP x)) (toPL n f) : Nat), .sb (bsB (fun y => ordP y (toP x)) (toPL n f))], [])
  | _ => none
def crBsK : List AV → Option (AV × List (Nat × Blk))
  | [.dat n _ _ f, x, _] => some (.tup [.i (bsI (fun y => cmpI y.1 (asI x)) (toKL n f) : Nat), .sb (bsB (fun y => cmpI y.1 (asI x)) (toKL n f))], [])
  | _ => none
def crOf : List AV → Option (AV × List (Nat × Blk))
  | [a, b] => some (prA (ofI (asI a) (asI b)), [])
  | _ => none
def crParts : List AV → Option (AV × List (Nat × Blk))
  | [a, b] => some (.sb (partsB (asI a) (asI b)), [])
  | _ => none
def crN (g : Nat) (args : List AV) (_ : List (Nat × Blk)) : Option (AV × List (Nat × Blk)) :=
  sel (Nat.beq g F_isnan) (some (.v (.bool false), [])) <| sel (Nat.beq g F_cmpC) (crCmp args) <| sel (Nat.beq g F_cmpOr) (crOr args) <| sel (Nat.beq g F_order) (crOrder args) <|
  sel (Nat.beq g F_find1) (crFind1 args) <| sel (Nat.beq g F_bsP) (crBsP args) <| sel (Nat.beq g F_bsK) (crBsK args) <| sel (Nat.beq g F_ofP) (crOf args) <| sel (Nat.beq g F_parts) (crParts args) none
def wayN (keep : List Nat) (nt : Nat) (cuts : List Nat) : Way := ⟨crN, fun _ => false, keep, [], nt, cuts⟩
def w_isnan : Way := wayN [0, 2] 6 []
def w_cmpC : Way := wayN [0, 1, 4, 5, 6, 11, 12, 13, 16, 19] 20 []
def w_cmpOr : Way := wayN [0, 2, 3, 5, 6, 7, 8, 9, 14] 18 []
def w_order : Way := wayN [0, 1, 2, 3, 4] 17 []
def w_find1 : Way := wayN [0, 1, 2, 4] 9 []
def w_bsP : Way := wayN [0, 1, 2, 4, 6, 7, 8, 9, 10, 11, 17, 31] 49 []
def w_bsK : Way := wayN [0, 1, 2, 6, 7, 8, 9, 10, 11, 17, 31] 49 []
def w_ofP : Way := wayN [0, 1, 4] 12 []
def w_parts : Way := wayN [0, 1, 4] 24 []
def I_or (f : Nat → Int) (i : Nat) : St := { tm := [(3, .i 0), (6, .dat 2 false 1 (fun j => .i (f j))), (7, .i 2), (8, .i i)], hp := [], seen := [] }
def I_bsP (ex : Bool) (l : List PI) (x : PI) (s : Nat × Nat) : St := { tm := [(0, dP ex l), (2, .fn (.func 36) []), (4, .ptr 4 []), (8, .i l.length), (9, .i s.1), (10, .i s.2)], hp := [(4, .c (prA x))], seen := [4] }
def I_bsK (ex : Bool) (l : List Pk) (x : Int) (s : Nat × Nat) : St := { tm := [(0, dK ex l), (1, .i x), (2, .fn (.func 56) []), (8, .i l.length), (9, .i s.1), (10, .i s.2)], hp := [], seen := [] }

theorem isnan_A (a : Int) (K : Nat) (Φ : Ex → St → Prop) :
  (Holds C P 6 [] K Φ (vc C w_isnan b_isnan [] (start [.i a] []) lf)) =
  (Φ Ex.ret (St.mk [(0, (AV.i a)), (2, (AV.sb (a != a)))] [] [])) := by kernel_rfl
theorem cmpC_A (a b : Int) (K : Nat) (Φ : Ex → St → Prop) :
  (Holds C P 20 [] K Φ (vc C w_cmpC b_cmpC [] (start [.i a, .i b] []) lf)) =
  (Fun W.C W.P 57 [(AV.i a)] [] (AV.v (Value.bool false)) [] ∧
 (True ∧
 (Fun W.C W.P 57 [(AV.i b)] [] (AV.v (Value.bool false)) [] ∧
 (True ∧
 (((decide (a < b)) = true →
 (Φ Ex.ret (St.mk [(0, (AV.i a)), (1, (AV.i b)), (4, (AV.i (-1 : Int))), (5, (AV.v (Value.bool false))), (6, (AV.v (Value.bool false))), (11, (AV.v (Value.bool false))), (13, (AV.v (Value.bool false))), (16, (AV.v (Value.bool true)))] [] []))) ∧
 ((decide (a < b)) = false →
 (((decide (a > b)) = true →
  (Φ Ex.ret (St.mk [(0, (AV.i a)), (1, (AV.i b)), (4, (AV.i (1 : Int))), (5, (AV.v (Value.bool false))), (6, (AV.v (Value.bool false))), (11, (AV.v (Value.bool false))), (13, (AV.v (Value.bool false))), (16, (AV.v (Value.bool false))), (19, (AV.v (Value.bool true)))] [] []))) ∧
  ((decide (a > b)) = false →
  (Φ Ex.ret (St.mk [(0, (AV.i a)), (1, (AV.i b)), (4, (AV.i (0 : Int))), (5, (AV.v (Value.bool false))), (6, (AV.v (Value.bool false))), (11, (AV.v (Value.bool false))), (13, (AV.v (Value.bool false))), (16, (AV.v (Value.bool false))), (19, (AV.v (Value.bool false)))] [] [])))))))))) := by kernel_rfl
theorem cmpOr_A (f : Nat → Int) (K : Nat) (Φ : Ex → St → Prop) :
  (Holds C P 18 [] K Φ (vc C w_cmpOr b_cmpOr [] (start [.dat 2 false 1 (fun j => .i (f j))] []) lf)) =
  (LoopOK W.C W.P 18 [] K (bodyAt b_cmpOr [1, 1, 0, 1, 0]) (St.mk [(0, (AV.dat 2 false 1 (fun (j : Nat) => (AV.i (f j))))), (2, (AV.i (0 : Int))), (3, (AV.i (0 : Int))), (6, (AV.dat 2 false 1 (fun (j : Nat) => (AV.i (f j))))), (7, (AV.i (2 : Int))), (8, (AV.i (0 : Int)))] [] []) (fun (e : Ex) (S' : St) => Holds W.C W.P 18 [] K Φ (after W.C w_cmpOr b_cmpOr [1, 1, 0, 1, 0] [] lf e S'))) := by kernel_rfl
noncomputable abbrev bd_cmpOr_0 : Code := bodyAt (b_cmpOr) [1, 1, 0, 1, 0]
theorem ok_cmpOr_0 : codeOK bd_cmpOr_0 = true := by kernel_rfl
noncomputable abbrev rest_cmpOr_0 (K : Nat) (Φ : Ex → St → Prop) : Ex → St → Prop := fun e S' => Holds C P 18 [] K Φ (after C w_cmpOr (b_cmpOr) [1, 1, 0, 1, 0] [] lf e S')
theorem cmpOr_L0 (f : Nat → Int) (i : Nat) (K : Nat) (Φ : Ex → St → Prop) :
  (Holds C P 18 [] K (RoundQ C 18 [] K (I_or f) (fun i => i ≤ 2 ∧ ∀ k, k < i → f k = 0) (fun i => 2 - i) ((fun i => 2 - i) (i)) (rest_cmpOr_0 K Φ)) (vc C w_cmpOr bd_cmpOr_0 [] ((I_or f) (i)) lf)) =
  (((decide (((i : Nat) : Int) < (2 : Int))) = true →
 ((((0 : Int) ≤ ((i : Nat) : Int)) ∧ (((i : Nat) : Int) < (2 : Int))) ∧
  ((((f i) != (0 : Int)) = true →
  (Φ Ex.ret (St.mk [(2, (AV.i (f i))), (3, (AV.i (0 : Int))), (5, (AV.i (f i))), (6, (AV.dat 2 false 1 (fun (j : Nat) => (AV.i (f j))))), (7, (AV.i (2 : Int))), (8, (AV.i ((i : Nat) : Int))), (9, (AV.v (Value.bool true))), (14, (AV.v (Value.bool true)))] [] []))) ∧
  (((f i) != (0 : Int)) = false →
  ((I64 (((i + 1) : Nat) : Int)) ∧
   ((RoundQ C 18 [] K (I_or f) (fun i => i ≤ 2 ∧ ∀ k, k < i → f k = 0) (fun i => 2 - i) ((fun i => 2 - i) (i)) (rest_cmpOr_0 K Φ)) Ex.normal (St.mk [(3, (AV.i (0 : Int))), (5, (AV.i (f i))), (6, (AV.dat 2 false 1 (fun (j : Nat) => (AV.i (f j))))), (7, (AV.i (2 : Int))), (8, (AV.i (((i + 1) : Nat) : Int))), (9, (AV.v (Value.bool true))), (14, (AV.v (Value.bool false)))] [] []))))))) ∧
 ((decide (((i : Nat) : Int) < (2 : Int))) = false →
 (Φ Ex.ret (St.mk [(2, (AV.i (0 : Int))), (3, (AV.i (0 : Int))), (6, (AV.dat 2 false 1 (fun (j : Nat) => (AV.i (f j))))), (7, (AV.i (2 : Int))), (8, (AV.i ((i : Nat) : Int))), (9, (AV.v (Value.bool false)))] [] [])))) := by kernel_rfl
theorem order_A (x y : PI) (K : Nat) (Φ : Ex → St → Prop) :
  (Holds C P 17 [] K Φ (vc C w_order b_order [] (start [prA x, prA y] []) lf)) =
  ((((0 : Int) ≤ (0 : Int)) ∧ ((0 : Int) < (2 : Int))) ∧
 ((((0 : Int) ≤ (0 : Int)) ∧ ((0 : Int) < (2 : Int))) ∧
 (Fun W.C W.P 48 [(AV.i (W.two (Prod.fst x) (Prod.snd x) 0)), (AV.i (W.two (Prod.fst y) (Prod.snd y) 0))] [] (AV.i (W.cmpI (W.two (Prod.fst x) (Prod.snd x) 0) (W.two (Prod.fst y) (Prod.snd y) 0))) [] ∧
 (True ∧
 ((((0 : Int) ≤ (1 : Int)) ∧ ((1 : Int) < (2 : Int))) ∧
 ((((0 : Int) ≤ (1 : Int)) ∧ ((1 : Int) < (2 : Int))) ∧
 (Fun W.C W.P 48 [(AV.i (W.two (Prod.fst x) (Prod.snd x) 1)), (AV.i (W.two (Prod.fst y) (Prod.snd y) 1))] [] (AV.i (W.cmpI (W.two (Prod.fst x) (Prod.snd x) 1) (W.two (Prod.fst y) (Prod.snd y) 1))) [] ∧
 (True ∧
 (Fun W.C W.P 47 [(AV.dat 2 false 1 (fun (i : Nat) => (nthD [(AV.i (W.cmpI (W.two (Prod.fst x) (Prod.snd x) 0) (W.two (Prod.fst y) (Prod.snd y) 0))), (AV.i (W.cmpI (W.two (Prod.fst x) (Prod.snd x) 1) (W.two (Prod.fst y) (Prod.snd y) 1)))] (0 + i) (AV.v (Value.tuple (List.toArray []))))))] [] (AV.i (W.orI (W.cmpI (W.two (Prod.fst x) (Prod.snd x) 0) (W.two (Prod.fst y) (Prod.snd y) 0)) (W.cmpI (W.two (Prod.fst x) (Prod.snd x) 1) (W.two (Prod.fst y) (Prod.snd y) 1)))) [] ∧
 (True ∧
 (Φ Ex.ret (St.mk [(0, (W.prA x)), (1, (W.prA y)), (2, (AV.ptr 2 [])), (3, (AV.ptr 3 [])), (4, (AV.i (W.orI (W.cmpI (W.two (Prod.fst x) (Prod.snd x) 0) (W.two (Prod.fst y) (Prod.snd y) 0)) (W.cmpI (W.two (Prod.fst x) (Prod.snd x) 1) (W.two (Prod.fst y) (Prod.snd y) 1)))))] [(2, (Blk.c (W.prA x))), (3, (Blk.c (W.prA y))), (15, (Blk.c (AV.st [(AV.i (W.cmpI (W.two (Prod.fst x) (Prod.snd x) 0) (W.two (Prod.fst y) (Prod.snd y) 0))), (AV.i (W.cmpI (W.two (Prod.fst x) (Prod.snd x) 1) (W.two (Prod.fst y) (Prod.snd y) 1)))])))] [15, 3, 2])))))))))))) := by kernel_rfl
theorem find1_A (x : Pk) (y : Int) (K : Nat) (Φ : Ex → St → Prop) :
  (Holds C P 9 [] K Φ (vc C w_find1 b_find1 [] (start [pkA x, .i y] []) lf)) =
  (Fun W.C W.P 48 [(AV.i (Prod.fst x)), (AV.i y)] [] (AV.i (W.cmpI (Prod.fst x) y)) [] ∧
 (True ∧
 (Φ Ex.ret (St.mk [(0, (W.pkA x)), (1, (AV.i y)), (2, (AV.ptr 2 [])), (4, (AV.i (W.cmpI (Prod.fst x) y)))] [(2, (Blk.c (W.pkA x)))] [2])))) := by kernel_rfl
theorem ofP_A (a b : Int) (K : Nat) (Φ : Ex → St → Prop) :
  (Holds C P 12 [] K Φ (vc C w_ofP b_ofP [] (start [.i a, .i b] []) lf)) =
  (((2 = 2) ∧ ((1 = 1) ∧ (∀ (i : Nat), ((i < 2) → (shp (AV.i (0 : Int)) (layParts (fun (x : Nat) => (AV.i (0 : Int))) [(0, (AV.i (Min.min a b))), (1, (AV.i (Max.max a b)))] i)))))) ∧
 (Φ Ex.ret (St.mk [(0, (AV.i a)), (1, (AV.i b)), (4, (AV.ptr 4 []))] [(4, (Blk.c (AV.arr 2 1 (layParts (fun (x : Nat) => (AV.i (0 : Int))) [(0, (AV.i (Min.min a b))), (1, (AV.i (Max.max a b)))]))))] [4]))) := by kernel_rfl
theorem parts_A (a b : Int) (K : Nat) (Φ : Ex → St → Prop) :
  (Holds C P 24 [] K Φ (vc C w_parts b_parts [] (start [.i a, .i b] []) lf)) =
  (((decide (a ≥ (0 : Int))) = true →
 (((decide (b ≥ (0 : Int))) = true →
  (((decide (a ≤ (1000000000 : Int))) = true →
   (((decide (b ≤ (1000000000 : Int))) = true →
    (Φ Ex.ret (St.mk [(0, (AV.i a)), (1, (AV.i b)), (4, (AV.sb (a != b)))] [] []))) ∧
    ((decide (b ≤ (1000000000 : Int))) = false →
    (Φ Ex.ret (St.mk [(0, (AV.i a)), (1, (AV.i b)), (4, (AV.v (Value.bool false)))] [] []))))) ∧
   ((decide (a ≤ (1000000000 : Int))) = false →
   (Φ Ex.ret (St.mk [(0, (AV.i a)), (1, (AV.i b)), (4, (AV.v (Value.bool false)))] [] []))))) ∧
  ((decide (b ≥ (0 : Int))) = false →
  (Φ Ex.ret (St.mk [(0, (AV.i a)), (1, (AV.i b)), (4, (AV.v (Value.bool false)))] [] []))))) ∧
 ((decide (a ≥ (0 : Int))) = false →
 (Φ Ex.ret (St.mk [(0, (AV.i a)), (1, (AV.i b)), (4, (AV.v (Value.bool false)))] [] [])))) := by kernel_rfl
theorem bsP_A (ex : Bool) (l : List PI) (x : PI) (K : Nat) (Φ : Ex → St → Prop) :
  (Holds C P 49 [] K Φ (vc C w_bsP b_bsP [] (start [dP ex l, prA x, .fn (.func 36) []] []) lf)) =
  (LoopOK W.C W.P 49 [] K (bodyAt b_bsP [1, 1, 1, 0, 0]) (St.mk [(0, (W.dP ex l)), (1, (W.prA x)), (2, (AV.fn (Fn.func (36 : FuncId)) [])), (4, (AV.ptr 4 [])), (6, (AV.i (0 : Int))), (7, (AV.v (Value.bool false))), (8, (AV.i (((List.length l) : Nat) : Int))), (9, (AV.i (0 : Int))), (10, (AV.i (((List.length l) : Nat) : Int)))] [(4, (Blk.c (W.prA x)))] [4]) (fun (e : Ex) (S' : St) => Holds W.C W.P 49 [] K Φ (after W.C w_bsP b_bsP [1, 1, 1, 0, 0] [] lf e S'))) := by kernel_rfl
noncomputable abbrev bd_bsP_0 : Code := bodyAt (b_bsP) [1, 1, 1, 0, 0]
theorem ok_bsP_0 : codeOK bd_bsP_0 = true := by kernel_rfl
noncomputable abbrev rest_bsP_0 (K : Nat) (Φ : Ex → St → Prop) : Ex → St → Prop := fun e S' => Holds C P 49 [] K Φ (after C w_bsP (b_bsP) [1, 1, 1, 0, 0] [] lf e S')
theorem bsP_L0 (ex : Bool) (l : List PI) (x : PI) (s : Nat × Nat) (K : Nat) (Φ : Ex → St → Prop) :
  (Holds C P 49 [] K (RoundQ C 49 [] K (I_bsP ex l x) (fun s => s.1 ≤ s.2 ∧ s.2 ≤ l.length ∧ (∀ k, k < s.1 → ordP (pAt l k) x < 0) ∧ ∀ k, s.2 ≤ k → k < l.length → 0 ≤ ordP (pAt l k) x) (fun s => s.2 - s.1) ((fun s => s.2 - s.1) (s)) (rest_bsP_0 K Φ)) (vc C w_bsP bd_bsP_0 [] ((I_bsP ex l x) (s)) lf)) =
  (((decide ((((Prod.fst s) : Nat) : Int) < (((Prod.snd s) : Nat) : Int))) = true →
 ((I64 ((((Prod.fst s) + (Prod.snd s)) : Nat) : Int)) ∧
  (((0 : Int) ≤ (1 : Int)) ∧
  ((I64 (bShr IntKind.u64 (IntKind.wrap IntKind.u64 ((((Prod.fst s) + (Prod.snd s)) : Nat) : Int)) (1 : Int))) ∧
  ((((0 : Int) ≤ (bShr IntKind.u64 (IntKind.wrap IntKind.u64 ((((Prod.fst s) + (Prod.snd s)) : Nat) : Int)) (1 : Int))) ∧ ((bShr IntKind.u64 (IntKind.wrap IntKind.u64 ((((Prod.fst s) + (Prod.snd s)) : Nat) : Int)) (1 : Int)) < (((List.length l) : Nat) : Int))) ∧
  (Fun W.C W.P (36 : FuncId) [(W.prA (W.pAt l (Int.toNat (bShr IntKind.u64 (IntKind.wrap IntKind.u64 ((((Prod.fst s) + (Prod.snd s)) : Nat) : Int)) (1 : Int))))), (W.prA x)] [] (AV.i (W.ordP ((W.two (Prod.fst (W.pAt l (Int.toNat (bShr IntKind.u64 (IntKind.wrap IntKind.u64 ((((Prod.fst s) + (Prod.snd s)) : Nat) : Int)) (1 : Int))))) (Prod.snd (W.pAt l (Int.toNat (bShr IntKind.u64 (IntKind.wrap IntKind.u64 ((((Prod.fst s) + (Prod.snd s)) : Nat) : Int)) (1 : Int))))) 0), (W.two (Prod.fst (W.pAt l (Int.toNat (bShr IntKind.u64 (IntKind.wrap IntKind.u64 ((((Prod.fst s) + (Prod.snd s)) : Nat) : Int)) (1 : Int))))) (Prod.snd (W.pAt l (Int.toNat (bShr IntKind.u64 (IntKind.wrap IntKind.u64 ((((Prod.fst s) + (Prod.snd s)) : Nat) : Int)) (1 : Int))))) 1)) ((W.two (Prod.fst x) (Prod.snd x) 0), (W.two (Prod.fst x) (Prod.snd x) 1)))) [] ∧
  (True ∧
  (((decide ((W.ordP ((W.two (Prod.fst (W.pAt l (Int.toNat (bShr IntKind.u64 (IntKind.wrap IntKind.u64 ((((Prod.fst s) + (Prod.snd s)) : Nat) : Int)) (1 : Int))))) (Prod.snd (W.pAt l (Int.toNat (bShr IntKind.u64 (IntKind.wrap IntKind.u64 ((((Prod.fst s) + (Prod.snd s)) : Nat) : Int)) (1 : Int))))) 0), (W.two (Prod.fst (W.pAt l (Int.toNat (bShr IntKind.u64 (IntKind.wrap IntKind.u64 ((((Prod.fst s) + (Prod.snd s)) : Nat) : Int)) (1 : Int))))) (Prod.snd (W.pAt l (Int.toNat (bShr IntKind.u64 (IntKind.wrap IntKind.u64 ((((Prod.fst s) + (Prod.snd s)) : Nat) : Int)) (1 : Int))))) 1)) ((W.two (Prod.fst x) (Prod.snd x) 0), (W.two (Prod.fst x) (Prod.snd x) 1))) < (0 : Int))) = true →
  ((I64 ((bShr IntKind.u64 (IntKind.wrap IntKind.u64 ((((Prod.fst s) + (Prod.snd s)) : Nat) : Int)) (1 : Int)) + (1 : Int))) ∧
   ((RoundQ C 49 [] K (I_bsP ex l x) (fun s => s.1 ≤ s.2 ∧ s.2 ≤ l.length ∧ (∀ k, k < s.1 → ordP (pAt l k) x < 0) ∧ ∀ k, s.2 ≤ k → k < l.length → 0 ≤ ordP (pAt l k) x) (fun s => s.2 - s.1) ((fun s => s.2 - s.1) (s)) (rest_bsP_0 K Φ)) Ex.normal (St.mk [(0, (W.dP ex l)), (2, (AV.fn (Fn.func (36 : FuncId)) [])), (4, (AV.ptr 4 [])), (8, (AV.i (((List.length l) : Nat) : Int))), (9, (AV.i ((bShr IntKind.u64 (IntKind.wrap IntKind.u64 ((((Prod.fst s) + (Prod.snd s)) : Nat) : Int)) (1 : Int)) + (1 : Int)))), (10, (AV.i (((Prod.snd s) : Nat) : Int))), (11, (AV.i (bShr IntKind.u64 (IntKind.wrap IntKind.u64 ((((Prod.fst s) + (Prod.snd s)) : Nat) : Int)) (1 : Int)))), (17, (AV.v (Value.bool true))), (31, (AV.v (Value.bool true)))] [(4, (Blk.c (W.prA x)))] [4])))) ∧
  ((decide ((W.ordP ((W.two (Prod.fst (W.pAt l (Int.toNat (bShr IntKind.u64 (IntKind.wrap IntKind.u64 ((((Prod.fst s) + (Prod.snd s)) : Nat) : Int)) (1 : Int))))) (Prod.snd (W.pAt l (Int.toNat (bShr IntKind.u64 (IntKind.wrap IntKind.u64 ((((Prod.fst s) + (Prod.snd s)) : Nat) : Int)) (1 : Int))))) 0), (W.two (Prod.fst (W.pAt l (Int.toNat (bShr IntKind.u64 (IntKind.wrap IntKind.u64 ((((Prod.fst s) + (Prod.snd s)) : Nat) : Int)) (1 : Int))))) (Prod.snd (W.pAt l (Int.toNat (bShr IntKind.u64 (IntKind.wrap IntKind.u64 ((((Prod.fst s) + (Prod.snd s)) : Nat) : Int)) (1 : Int))))) 1)) ((W.two (Prod.fst x) (Prod.snd x) 0), (W.two (Prod.fst x) (Prod.snd x) 1))) < (0 : Int))) = false →
  ((RoundQ C 49 [] K (I_bsP ex l x) (fun s => s.1 ≤ s.2 ∧ s.2 ≤ l.length ∧ (∀ k, k < s.1 → ordP (pAt l k) x < 0) ∧ ∀ k, s.2 ≤ k → k < l.length → 0 ≤ ordP (pAt l k) x) (fun s => s.2 - s.1) ((fun s => s.2 - s.1) (s)) (rest_bsP_0 K Φ)) Ex.normal (St.mk [(0, (W.dP ex l)), (2, (AV.fn (Fn.func (36 : FuncId)) [])), (4, (AV.ptr 4 [])), (8, (AV.i (((List.length l) : Nat) : Int))), (9, (AV.i (((Prod.fst s) : Nat) : Int))), (10, (AV.i (bShr IntKind.u64 (IntKind.wrap IntKind.u64 ((((Prod.fst s) + (Prod.snd s)) : Nat) : Int)) (1 : Int)))), (11, (AV.i (bShr IntKind.u64 (IntKind.wrap IntKind.u64 ((((Prod.fst s) + (Prod.snd s)) : Nat) : Int)) (1 : Int)))), (17, (AV.v (Value.bool true))), (31, (AV.v (Value.bool false)))] [(4, (Blk.c (W.prA x)))] [4]))))))))))) ∧
 ((decide ((((Prod.fst s) : Nat) : Int) < (((Prod.snd s) : Nat) : Int))) = false →
 (((decide ((((Prod.fst s) : Nat) : Int) < (((List.length l) : Nat) : Int))) = true →
  ((((0 : Int) ≤ (((Prod.fst s) : Nat) : Int)) ∧ ((((Prod.fst s) : Nat) : Int) < (((List.length l) : Nat) : Int))) ∧
   (Fun W.C W.P (36 : FuncId) [(W.prA (W.pAt l (Prod.fst s))), (W.prA x)] [] (AV.i (W.ordP ((W.two (Prod.fst (W.pAt l (Prod.fst s))) (Prod.snd (W.pAt l (Prod.fst s))) 0), (W.two (Prod.fst (W.pAt l (Prod.fst s))) (Prod.snd (W.pAt l (Prod.fst s))) 1)) ((W.two (Prod.fst x) (Prod.snd x) 0), (W.two (Prod.fst x) (Prod.snd x) 1)))) [] ∧
   (True ∧
   (Φ Ex.ret (St.mk [(0, (W.dP ex l)), (2, (AV.fn (Fn.func (36 : FuncId)) [])), (4, (AV.ptr 4 [])), (6, (AV.i (((Prod.fst s) : Nat) : Int))), (7, (AV.sb ((W.ordP ((W.two (Prod.fst (W.pAt l (Prod.fst s))) (Prod.snd (W.pAt l (Prod.fst s))) 0), (W.two (Prod.fst (W.pAt l (Prod.fst s))) (Prod.snd (W.pAt l (Prod.fst s))) 1)) ((W.two (Prod.fst x) (Prod.snd x) 0), (W.two (Prod.fst x) (Prod.snd x) 1))) == (0 : Int)))), (8, (AV.i (((List.length l) : Nat) : Int))), (9, (AV.i (((Prod.fst s) : Nat) : Int))), (10, (AV.i (((Prod.snd s) : Nat) : Int))), (17, (AV.v (Value.bool false)))] [(4, (Blk.c (W.prA x)))] [4])))))) ∧
  ((decide ((((Prod.fst s) : Nat) : Int) < (((List.length l) : Nat) : Int))) = false →
  (Φ Ex.ret (St.mk [(0, (W.dP ex l)), (2, (AV.fn (Fn.func (36 : FuncId)) [])), (4, (AV.ptr 4 [])), (6, (AV.i (((Prod.fst s) : Nat) : Int))), (7, (AV.v (Value.bool false))), (8, (AV.i (((List.length l) : Nat) : Int))), (9, (AV.i (((Prod.fst s) : Nat) : Int))), (10, (AV.i (((Prod.snd s) : Nat) : Int))), (17, (AV.v (Value.bool false)))] [(4, (Blk.c (W.prA x)))] [4])))))) := by kernel_rfl
theorem bsK_A (ex : Bool) (l : List Pk) (x : Int) (K : Nat) (Φ : Ex → St → Prop) :
  (Holds C P 49 [] K Φ (vc C w_bsK b_bsK [] (start [dK ex l, .i x, .fn (.func 56) []] []) lf)) =
  (LoopOK W.C W.P 49 [] K (bodyAt b_bsK [1, 1, 1, 0, 0]) (St.mk [(0, (W.dK ex l)), (1, (AV.i x)), (2, (AV.fn (Fn.func (56 : FuncId)) [])), (6, (AV.i (0 : Int))), (7, (AV.v (Value.bool false))), (8, (AV.i (((List.length l) : Nat) : Int))), (9, (AV.i (0 : Int))), (10, (AV.i (((List.length l) : Nat) : Int)))] [] []) (fun (e : Ex) (S' : St) => Holds W.C W.P 49 [] K Φ (after W.C w_bsK b_bsK [1, 1, 1, 0, 0] [] lf e S'))) := by kernel_rfl
noncomputable abbrev bd_bsK_0 : Code := bodyAt (b_bsK) [1, 1, 1, 0, 0]
theorem ok_bsK_0 : codeOK bd_bsK_0 = true := by kernel_rfl
noncomputable abbrev rest_bsK_0 (K : Nat) (Φ : Ex → St → Prop) : Ex → St → Prop := fun e S' => Holds C P 49 [] K Φ (after C w_bsK (b_bsK) [1, 1, 1, 0, 0] [] lf e S')
theorem bsK_L0 (ex : Bool) (l : List Pk) (x : Int) (s : Nat × Nat) (K : Nat) (Φ : Ex → St → Prop) :
  (Holds C P 49 [] K (RoundQ C 49 [] K (I_bsK ex l x) (fun s => s.1 ≤ s.2 ∧ s.2 ≤ l.length ∧ (∀ k, k < s.1 → cmpI (kAt l k).1 x < 0) ∧ ∀ k, s.2 ≤ k → k < l.length → 0 ≤ cmpI (kAt l k).1 x) (fun s => s.2 - s.1) ((fun s => s.2 - s.1) (s)) (rest_bsK_0 K Φ)) (vc C w_bsK bd_bsK_0 [] ((I_bsK ex l x) (s)) lf)) =
  (((decide ((((Prod.fst s) : Nat) : Int) < (((Prod.snd s) : Nat) : Int))) = true →
 ((I64 ((((Prod.fst s) + (Prod.snd s)) : Nat) : Int)) ∧
  (((0 : Int) ≤ (1 : Int)) ∧
  ((I64 (bShr IntKind.u64 (IntKind.wrap IntKind.u64 ((((Prod.fst s) + (Prod.snd s)) : Nat) : Int)) (1 : Int))) ∧
  ((((0 : Int) ≤ (bShr IntKind.u64 (IntKind.wrap IntKind.u64 ((((Prod.fst s) + (Prod.snd s)) : Nat) : Int)) (1 : Int))) ∧ ((bShr IntKind.u64 (IntKind.wrap IntKind.u64 ((((Prod.fst s) + (Prod.snd s)) : Nat) : Int)) (1 : Int)) < (((List.length l) : Nat) : Int))) ∧
  (Fun W.C W.P (56 : FuncId) [(W.pkA (W.kAt l (Int.toNat (bShr IntKind.u64 (IntKind.wrap IntKind.u64 ((((Prod.fst s) + (Prod.snd s)) : Nat) : Int)) (1 : Int))))), (AV.i x)] [] (AV.i (W.cmpI (Prod.fst ((Prod.fst (W.kAt l (Int.toNat (bShr IntKind.u64 (IntKind.wrap IntKind.u64 ((((Prod.fst s) + (Prod.snd s)) : Nat) : Int)) (1 : Int))))), ((Prod.fst (Prod.snd (W.kAt l (Int.toNat (bShr IntKind.u64 (IntKind.wrap IntKind.u64 ((((Prod.fst s) + (Prod.snd s)) : Nat) : Int)) (1 : Int)))))), (Prod.snd (Prod.snd (W.kAt l (Int.toNat (bShr IntKind.u64 (IntKind.wrap IntKind.u64 ((((Prod.fst s) + (Prod.snd s)) : Nat) : Int)) (1 : Int))))))))) x)) [] ∧
  (True ∧
  (((decide ((W.cmpI (Prod.fst ((Prod.fst (W.kAt l (Int.toNat (bShr IntKind.u64 (IntKind.wrap IntKind.u64 ((((Prod.fst s) + (Prod.snd s)) : Nat) : Int)) (1 : Int))))), ((Prod.fst (Prod.snd (W.kAt l (Int.toNat (bShr IntKind.u64 (IntKind.wrap IntKind.u64 ((((Prod.fst s) + (Prod.snd s)) : Nat) : Int)) (1 : Int)))))), (Prod.snd (Prod.snd (W.kAt l (Int.toNat (bShr IntKind.u64 (IntKind.wrap IntKind.u64 ((((Prod.fst s) + (Prod.snd s)) : Nat) : Int)) (1 : Int))))))))) x) < (0 : Int))) = true →
  ((I64 ((bShr IntKind.u64 (IntKind.wrap IntKind.u64 ((((Prod.fst s) + (Prod.snd s)) : Nat) : Int)) (1 : Int)) + (1 : Int))) ∧
   ((RoundQ C 49 [] K (I_bsK ex l x) (fun s => s.1 ≤ s.2 ∧ s.2 ≤ l.length ∧ (∀ k, k < s.1 → cmpI (kAt l k).1 x < 0) ∧ ∀ k, s.2 ≤ k → k < l.length → 0 ≤ cmpI (kAt l k).1 x) (fun s => s.2 - s.1) ((fun s => s.2 - s.1) (s)) (rest_bsK_0 K Φ)) Ex.normal (St.mk [(0, (W.dK ex l)), (1, (AV.i x)), (2, (AV.fn (Fn.func (56 : FuncId)) [])), (8, (AV.i (((List.length l) : Nat) : Int))), (9, (AV.i ((bShr IntKind.u64 (IntKind.wrap IntKind.u64 ((((Prod.fst s) + (Prod.snd s)) : Nat) : Int)) (1 : Int)) + (1 : Int)))), (10, (AV.i (((Prod.snd s) : Nat) : Int))), (11, (AV.i (bShr IntKind.u64 (IntKind.wrap IntKind.u64 ((((Prod.fst s) + (Prod.snd s)) : Nat) : Int)) (1 : Int)))), (17, (AV.v (Value.bool true))), (31, (AV.v (Value.bool true)))] [] [])))) ∧
  ((decide ((W.cmpI (Prod.fst ((Prod.fst (W.kAt l (Int.toNat (bShr IntKind.u64 (IntKind.wrap IntKind.u64 ((((Prod.fst s) + (Prod.snd s)) : Nat) : Int)) (1 : Int))))), ((Prod.fst (Prod.snd (W.kAt l (Int.toNat (bShr IntKind.u64 (IntKind.wrap IntKind.u64 ((((Prod.fst s) + (Prod.snd s)) : Nat) : Int)) (1 : Int)))))), (Prod.snd (Prod.snd (W.kAt l (Int.toNat (bShr IntKind.u64 (IntKind.wrap IntKind.u64 ((((Prod.fst s) + (Prod.snd s)) : Nat) : Int)) (1 : Int))))))))) x) < (0 : Int))) = false →
  ((RoundQ C 49 [] K (I_bsK ex l x) (fun s => s.1 ≤ s.2 ∧ s.2 ≤ l.length ∧ (∀ k, k < s.1 → cmpI (kAt l k).1 x < 0) ∧ ∀ k, s.2 ≤ k → k < l.length → 0 ≤ cmpI (kAt l k).1 x) (fun s => s.2 - s.1) ((fun s => s.2 - s.1) (s)) (rest_bsK_0 K Φ)) Ex.normal (St.mk [(0, (W.dK ex l)), (1, (AV.i x)), (2, (AV.fn (Fn.func (56 : FuncId)) [])), (8, (AV.i (((List.length l) : Nat) : Int))), (9, (AV.i (((Prod.fst s) : Nat) : Int))), (10, (AV.i (bShr IntKind.u64 (IntKind.wrap IntKind.u64 ((((Prod.fst s) + (Prod.snd s)) : Nat) : Int)) (1 : Int)))), (11, (AV.i (bShr IntKind.u64 (IntKind.wrap IntKind.u64 ((((Prod.fst s) + (Prod.snd s)) : Nat) : Int)) (1 : Int)))), (17, (AV.v (Value.bool true))), (31, (AV.v (Value.bool false)))] [] []))))))))))) ∧
 ((decide ((((Prod.fst s) : Nat) : Int) < (((Prod.snd s) : Nat) : Int))) = false →
 (((decide ((((Prod.fst s) : Nat) : Int) < (((List.length l) : Nat) : Int))) = true →
  ((((0 : Int) ≤ (((Prod.fst s) : Nat) : Int)) ∧ ((((Prod.fst s) : Nat) : Int) < (((List.length l) : Nat) : Int))) ∧
   (Fun W.C W.P (56 : FuncId) [(W.pkA (W.kAt l (Prod.fst s))), (AV.i x)] [] (AV.i (W.cmpI (Prod.fst ((Prod.fst (W.kAt l (Prod.fst s))), ((Prod.fst (Prod.snd (W.kAt l (Prod.fst s)))), (Prod.snd (Prod.snd (W.kAt l (Prod.fst s))))))) x)) [] ∧
   (True ∧
   (Φ Ex.ret (St.mk [(0, (W.dK ex l)), (1, (AV.i x)), (2, (AV.fn (Fn.func (56 : FuncId)) [])), (6, (AV.i (((Prod.fst s) : Nat) : Int))), (7, (AV.sb ((W.cmpI (Prod.fst ((Prod.fst (W.kAt l (Prod.fst s))), ((Prod.fst (Prod.snd (W.kAt l (Prod.fst s)))), (Prod.snd (Prod.snd (W.kAt l (Prod.fst s))))))) x) == (0 : Int)))), (8, (AV.i (((List.length l) : Nat) : Int))), (9, (AV.i (((Prod.fst s) : Nat) : Int))), (10, (AV.i (((Prod.snd s) : Nat) : Int))), (17, (AV.v (Value.bool false)))] [] [])))))) ∧
  ((decide ((((Prod.fst s) : Nat) : Int) < (((List.length l) : Nat) : Int))) = false →
  (Φ Ex.ret (St.mk [(0, (W.dK ex l)), (1, (AV.i x)), (2, (AV.fn (Fn.func (56 : FuncId)) [])), (6, (AV.i (((Prod.fst s) : Nat) : Int))), (7, (AV.v (Value.bool false))), (8, (AV.i (((List.length l) : Nat) : Int))), (9, (AV.i (((Prod.fst s) : Nat) : Int))), (10, (AV.i (((Prod.snd s) : Nat) : Int))), (17, (AV.v (Value.bool false)))] [] [])))))) := by kernel_rfl
/-- Two results that hold no memory. -/
theorem post_tup {C : Ctx} {N : Nat} {S : St} {t u : Nat} {x y r q : AV} (h : look S.tm t = some x) (h2 : look S.tm u = some y) (hs : simR (fun _ => none) x r) (hs2 : simR (fun _ => none) y q) (htu : Nat.beq t u = false) (hn : noTups [r, q] = true := by rfl) : FunPost C N 0 [.tmp t, .tmp u] (.tup [r, q]) [] .ret S := by
  refine ⟨{ tm := [(t, r), (u, q)], hp := [], seen := [] }, .tup [r, q], ent_of [] rfl (tm_cons h hs (tm_cons h2 hs2 tm_nil)) hp_nil, by simp [resAV, resAll, resOne, look, Nat.beq_refl, htu, hn], fun _ _ _ _ h => h, fun id b hb => by cases hb⟩
theorem beq_dec (a b : Int) : (a == b) = decide (a = b) := by
  by_cases e : a = b <;> simp [e]
theorem two_0 {α : Type} (a b : α) : two a b 0 = a := rfl
theorem two_1 {α : Type} (a b : α) : two a b 1 = b := rfl
theorem isnan_fun (a : Int) : Fun C P F_isnan [.i a] [] (.v (.bool false)) [] := by
  refine in_isnan (W := w_isnan) rfl 0 (by simp) rfl (fun id h => absurd rfl h) ?_
  refine of_eq (isnan_A a 0 _) (post_tmp rfl (.inr ?_))
  show Value.bool false = .bool (a != a)
  simp
theorem cmpC_fun (a b : Int) : Fun C P F_cmpC [.i a, .i b] [] (.i (cmpI a b)) [] := by
  refine in_cmpC (W := w_cmpC) rfl 0 (by simp) rfl (fun id h => absurd rfl h) ?_
  refine of_eq (cmpC_A a b 0 _) ⟨isnan_fun a, trivial, isnan_fun b, trivial, fun h => ?_, fun h => ⟨fun h2 => ?_, fun h2 => ?_⟩⟩
  · simp only [decide_eq_true_eq] at h
    exact post_tmp rfl (sm_int (by unfold cmpI; rw [if_pos h]))
  · simp only [decide_eq_true_eq, decide_eq_false_iff_not] at h h2
    exact post_tmp rfl (sm_int (by unfold cmpI; rw [if_neg h, if_pos h2]))
  · simp only [decide_eq_false_iff_not] at h h2
    exact post_tmp rfl (sm_int (by unfold cmpI; rw [if_neg h, if_neg h2]))
theorem cmpOr_fun (f : Nat → Int) : Fun C P F_cmpOr [.dat 2 false 1 (fun j => .i (f j))] [] (.i (orI (f 0) (f 1))) [] := by
  refine in_cmpOr (W := w_cmpOr) rfl 0 (by simp) rfl (fun id h => absurd rfl h) ?_
  refine of_eq (cmpOr_A f 0 _) ?_
  refine loop_inv (W := w_cmpOr) ctx mixed ok_cmpOr_0 (I_or f) (fun i => i ≤ 2 ∧ ∀ k, k < i → f k = 0) (fun i => 2 - i) 0 ⟨by decide, fun k hk => by omega⟩ ?_ fun i hi => ?_
  · exact ent_of [] rfl (tm_cons rfl (sm_same rfl) (tm_cons rfl (sm_same rfl) (tm_cons rfl (sm_same rfl) (tm_cons rfl (sm_same rfl) tm_nil)))) hp_nil
  obtain ⟨hi, hz⟩ := hi
  refine of_eq (cmpOr_L0 f i 0 _) ⟨fun h => ⟨by simp only [decide_eq_true_eq] at h; omega, fun h2 => ?_, fun h2 => ?_⟩, fun h => ?_⟩
  · simp only [decide_eq_true_eq] at h
    simp only [bne_iff_ne, ne_eq] at h2
    refine post_tmp rfl (sm_int ?_)
    unfold orI
    have hi2 : i = 0 ∨ i = 1 := by omega
    rcases hi2 with rfl | rfl
    · rw [if_pos h2]
    · rw [if_neg (by simpa using hz 0 (by decide))]
  · simp only [decide_eq_true_eq] at h
    simp only [bne_eq_false_iff_eq] at h2
    exact ⟨(by first | omega | decide | (unfold I64; omega)), round_end (i + 1) ⟨by omega, fun k hk => by
      by_cases e : k = i
      · rw [e]; exact h2
      · exact hz k (by omega)⟩ (ent_of [] rfl (tm_cons rfl (sm_same rfl) (tm_cons rfl (sm_same rfl) (tm_cons rfl (sm_same rfl) (tm_cons rfl (sm_same rfl) tm_nil)))) hp_nil) (by dsimp only; omega)⟩
  · simp only [decide_eq_false_iff_not] at h
    obtain rfl : i = 2 := by omega
    refine post_tmp rfl (sm_int ?_)
    unfold orI
    rw [if_neg (by simpa using hz 0 (by decide)), hz 1 (by decide)]
theorem order_fun (x y : PI) : Fun C P F_order [prA x, prA y] [] (.i (ordP x y)) [] := by
  refine in_order (W := w_order) rfl 0 (by simp) rfl (fun id h => absurd rfl h) ?_
  refine of_eq (order_A x y 0 _) ⟨(by first | omega | decide | (unfold I64; omega)), (by first | omega | decide | (unfold I64; omega)), cmpC_fun _ _, trivial, (by first | omega | decide | (unfold I64; omega)), (by first | omega | decide | (unfold I64; omega)), cmpC_fun _ _, trivial, ?_, trivial, post_tmp rfl (sm_int rfl)⟩
  refine (cmpOr_fun (two (cmpI x.1 y.1) (cmpI x.2 y.2))).sim ⟨sm_dat (by simp) fun i hi => ?_, trivial⟩ trivial
  match i, hi with
  | 0, _ => rfl
  | 1, _ => rfl
theorem find1_fun (x : Pk) (y : Int) : Fun C P F_find1 [pkA x, .i y] [] (.i (cmpI x.1 y)) [] := by
  refine in_find1 (W := w_find1) rfl 0 (by simp) rfl (fun id h => absurd rfl h) ?_
  exact of_eq (find1_A x y 0 _) ⟨cmpC_fun _ _, trivial, post_tmp rfl (sm_int rfl)⟩
theorem ofP_fun (a b : Int) : Fun C P F_ofP [.i a, .i b] [] (prA (ofI a b)) [] := by
  refine in_ofP (W := w_ofP) rfl 0 (by simp) rfl (fun id h => absurd rfl h) ?_
  refine of_eq (ofP_A a b 0 _) ⟨⟨rfl, rfl, fun i hi => ?_⟩, post_cell rfl rfl (sm_arr fun i hi => ?_) rfl⟩
  · match i, hi with
    | 0, _ => exact ⟨rfl, rfl⟩
    | 1, _ => exact ⟨rfl, rfl⟩
  · match i, hi with
    | 0, _ => rfl
    | 1, _ => rfl
theorem parts_fun (a b : Int) : Fun C P F_parts [.i a, .i b] [] (.sb (partsB a b)) [] := by
  refine in_parts (W := w_parts) rfl 0 (by simp) rfl (fun id h => absurd rfl h) ?_
  refine of_eq (parts_A a b 0 _) ⟨fun h1 => ⟨fun h2 => ⟨fun h3 => ⟨fun h4 => ?_, fun h4 => ?_⟩, fun h3 => ?_⟩, fun h2 => ?_⟩, fun h1 => ?_⟩ <;> simp only [decide_eq_true_eq, decide_eq_false_iff_not, ge_iff_le] at * <;> unfold partsB
  · refine post_tmp rfl (sm_sb ?_)
    simp [h1, h2, h3, h4, bne]
    by_cases e : a = b <;> simp [e]
  · exact post_tmp rfl (sm_b (by simp [h1, h2, h3, h4]))
  · exact post_tmp rfl (sm_b (by simp [h1, h2, h3]))
  · exact post_tmp rfl (sm_b (by simp [h1, h2]))
  · exact post_tmp rfl (sm_b (by simp [h1]))

/-! Searching by halves. -/
theorem half (n : Nat) (h : n < 2 ^ 63) : bShr .u64 (IntKind.wrap .u64 (n : Int)) 1 = ((n / 2 : Nat) : Int) := by
  have e1 : IntKind.wrap .u64 (n : Int) = (n : Int) := by
    simp [IntKind.wrap, IntKind.bits, IntKind.signed]
    omega
  rw [e1]
  unfold bShr
  simp only [IntKind.bits]
  show (n : Int).fdiv (2 ^ (min 1 64)) = _
  rw [Int.fdiv_eq_ediv_of_nonneg _ (by decide)]
  simp
/-- What is looked for stands where it would be: c grows along the list. -/
def Mono {α : Type} (c : α → Int) (l : List α) (d : α) : Prop := ∀ i j, i < j → j < l.length → c (l.getD j d) ≤ 0 → c (l.getD i d) < 0
theorem tw_len {α : Type} {p : α → Bool} {d : α} : ∀ {l : List α} {k : Nat}, k ≤ l.length → (∀ i, i < k → p (l.getD i d) = true) → (k < l.length → p (l.getD k d) = false) → (l.takeWhile p).length = k
  | [], k, hk, _, _ => by simp at hk; simp [hk]
  | x :: r, 0, _, _, h => by
    have := h (by simp)
    simp only [List.getD_cons_zero] at this
    simp [this]
  | x :: r, k + 1, hk, h1, h2 => by
    have h0 := h1 0 (by omega)
    simp only [List.getD_cons_zero] at h0
    rw [List.takeWhile_cons, if_pos h0, List.length_cons, tw_len (k := k) (d := d) (by simpa using hk) (fun i hi => by have := h1 (i + 1) (by omega); simpa using this) fun h => by have := h2 (by simp; omega); simpa using this]
theorem bs_at {α : Type} {c : α → Int} {l : List α} {d : α} {k : Nat} (hk : k ≤ l.length) (h1 : ∀ i, i < k → c (l.getD i d) < 0) (h2 : ∀ i, k ≤ i → i < l.length → 0 ≤ c (l.getD i d)) : bsI c l = k :=
  tw_len (d := d) hk (fun i hi => decide_eq_true (h1 i hi)) fun h => decide_eq_false (by have := h2 k (Nat.le_refl _) h; omega)
theorem bs_has {α : Type} {c : α → Int} {l : List α} {d : α} {k : Nat} (hm : Mono c l d) (hk : k < l.length) (h1 : ∀ i, i < k → c (l.getD i d) < 0) (h2 : 0 ≤ c (l.getD k d)) : bsB c l = decide (c (l.getD k d) = 0) := by
  unfold bsB
  by_cases e : c (l.getD k d) = 0
  · rw [decide_eq_true e, List.any_eq_true]
    refine ⟨l.getD k d, ?_, decide_eq_true e⟩
    rw [List.getD_eq_getElem?_getD, List.getElem?_eq_getElem hk]
    exact List.getElem_mem hk
  · rw [decide_eq_false e]
    refine Bool.eq_false_iff.2 fun ha => e ?_
    obtain ⟨y, hy, hc⟩ := List.any_eq_true.1 ha
    obtain ⟨j, hj, rfl⟩ := List.getElem_of_mem hy
    have hd : l.getD j d = l[j] := by rw [List.getD_eq_getElem?_getD, List.getElem?_eq_getElem hj]; rfl
    have hc := of_decide_eq_true hc
    rw [← hd] at hc
    rcases Nat.lt_trichotomy j k with h | rfl | h
    · have := h1 j h; omega
    · exact hc
    · have := hm k j h hj (by omega)
      omega
theorem bs_none {α : Type} {c : α → Int} {l : List α} {d : α} (h1 : ∀ i, i < l.length → c (l.getD i d) < 0) : bsB c l = false := by
  unfold bsB
  refine Bool.eq_false_iff.2 fun ha => ?_
  obtain ⟨y, hy, hc⟩ := List.any_eq_true.1 ha
  obtain ⟨j, hj, rfl⟩ := List.getElem_of_mem hy
  have hd : l.getD j d = l[j] := by rw [List.getD_eq_getElem?_getD, List.getElem?_eq_getElem hj]; rfl
  have hc := of_decide_eq_true hc
  have := h1 j hj
  rw [hd] at this
  omega
theorem bsP_fun (ex : Bool) (l : List PI) (x : PI) (hn : l.length < 2 ^ 60) (hm : Mono (fun y => ordP y x) l (0, 0)) : Fun C P F_bsP [dP ex l, prA x, .fn (.func 36) []] [] (.tup [.i (bsI (fun y => ordP y x) l : Nat), .sb (bsB (fun y => ordP y x) l)]) [] := by
  refine in_bsP (W := w_bsP) rfl 0 (by simp) rfl (fun id h => absurd rfl h) ?_
  refine of_eq (bsP_A ex l x 0 _) ?_
  refine loop_inv (W := w_bsP) ctx mixed ok_bsP_0 (I_bsP ex l x) (fun s => s.1 ≤ s.2 ∧ s.2 ≤ l.length ∧ (∀ k, k < s.1 → ordP (pAt l k) x < 0) ∧ ∀ k, s.2 ≤ k → k < l.length → 0 ≤ ordP (pAt l k) x) (fun s => s.2 - s.1) (0, l.length) ⟨Nat.zero_le _, Nat.le_refl _, fun k hk => by omega, fun k h1 h2 => by omega⟩ ?_ fun s hs => ?_
  · exact ent_of [(4, 4)] rfl (tm_cons rfl (sm_same rfl) (tm_cons rfl (sm_same rfl) (tm_cons rfl (sm_ptr rfl) (tm_cons rfl (sm_same rfl) (tm_cons rfl (sm_same rfl) (tm_cons rfl (sm_same rfl) tm_nil)))))) (hp_cons rfl rfl (sm_same rfl) hp_nil)
  obtain ⟨i, j⟩ := s
  obtain ⟨h1, h2, h3, h4⟩ := hs
  dsimp only at h1 h2 h3 h4
  refine of_eq (bsP_L0 ex l x (i, j) 0 _) ?_
  dsimp only
  rw [half (i + j) (by omega)]
  refine ⟨fun h => ?_, fun h => ?_⟩
  · simp only [decide_eq_true_eq] at h
    have hlt : i < j := by omega
    obtain ⟨m, hm'⟩ : ∃ m, m = (i + j) / 2 := ⟨_, rfl⟩
    rw [← hm', Int.toNat_natCast]
    have hmono : ∀ a b, a < b → b < l.length → ordP (pAt l b) x < 0 → ordP (pAt l a) x < 0 := fun a b hab hb hc => hm a b hab hb (Int.le_of_lt hc)
    refine ⟨(by first | omega | decide | (unfold I64; omega)), (by first | omega | decide | (unfold I64; omega)), (by first | omega | decide | (unfold I64; omega)), (by first | omega | decide | (unfold I64; omega)), order_fun (pAt l m) x, trivial, fun h5 => ⟨(by first | omega | decide | (unfold I64; omega)), ?_⟩, fun h5 => ?_⟩
    · have h5 : ordP (pAt l m) x < 0 := of_decide_eq_true h5
      exact round_end (m + 1, j) ⟨by dsimp only; omega, h2, fun k hk => by
        dsimp only at hk
        by_cases e : k = m
        · rw [e]; exact h5
        · exact hmono k m (by omega) (by omega) h5, h4⟩ (ent_of [(4, 4)] rfl (tm_cons rfl (sm_same rfl) (tm_cons rfl (sm_same rfl) (tm_cons rfl (sm_ptr rfl) (tm_cons rfl (sm_same rfl) (tm_cons rfl (sm_same rfl) (tm_cons rfl (sm_same rfl) tm_nil)))))) (hp_cons rfl rfl (sm_same rfl) hp_nil)) (by dsimp only; omega)
    · have h5 : ¬ ordP (pAt l m) x < 0 := of_decide_eq_false h5
      exact round_end (i, m) ⟨by dsimp only; omega, by dsimp only; omega, h3, fun k hk hkl => by
        dsimp only at hk
        by_cases e : k = m
        · rw [e]; omega
        · by_cases hc : ordP (pAt l k) x < 0
          · exact absurd (hmono m k (by omega) hkl hc) h5
          · omega⟩ (ent_of [(4, 4)] rfl (tm_cons rfl (sm_same rfl) (tm_cons rfl (sm_same rfl) (tm_cons rfl (sm_ptr rfl) (tm_cons rfl (sm_same rfl) (tm_cons rfl (sm_same rfl) (tm_cons rfl (sm_same rfl) tm_nil)))))) (hp_cons rfl rfl (sm_same rfl) hp_nil)) (by dsimp only; omega)
  · simp only [decide_eq_false_iff_not] at h
    obtain rfl : j = i := by omega
    have hI : bsI (fun y => ordP y x) l = j := bs_at (d := (0, 0)) h2 h3 h4
    refine ⟨fun h5 => ⟨by simp only [decide_eq_true_eq] at h5; omega, order_fun (pAt l j) x, trivial, ?_⟩, fun h5 => ?_⟩
    · simp only [decide_eq_true_eq] at h5
      rw [hI, bs_has (d := (0, 0)) hm (by omega) h3 (h4 j (Nat.le_refl _) (by omega))]
      exact post_tup rfl rfl (sm_int rfl) (sm_sb (beq_dec _ _)) rfl
    · simp only [decide_eq_false_iff_not] at h5
      rw [hI, bs_none (d := (0, 0)) fun k hk => h3 k (by omega)]
      exact post_tup rfl rfl (sm_int rfl) (sm_b rfl) rfl
theorem bsK_fun (ex : Bool) (l : List Pk) (x : Int) (hn : l.length < 2 ^ 60) (hm : Mono (fun y => cmpI y.1 x) l (0, 0, 0)) : Fun C P F_bsK [dK ex l, .i x, .fn (.func 56) []] [] (.tup [.i (bsI (fun y => cmpI y.1 x) l : Nat), .sb (bsB (fun y => cmpI y.1 x) l)]) [] := by
  refine in_bsK (W := w_bsK) rfl 0 (by simp) rfl (fun id h => absurd rfl h) ?_
  refine of_eq (bsK_A ex l x 0 _) ?_
  refine loop_inv (W := w_bsK) ctx mixed ok_bsK_0 (I_bsK ex l x) (fun s => s.1 ≤ s.2 ∧ s.2 ≤ l.length ∧ (∀ k, k < s.1 → cmpI (kAt l k).1 x < 0) ∧ ∀ k, s.2 ≤ k → k < l.length → 0 ≤ cmpI (kAt l k).1 x) (fun s => s.2 - s.1) (0, l.length) ⟨Nat.zero_le _, Nat.le_refl _, fun k hk => by omega, fun k h1 h2 => by omega⟩ ?_ fun s hs => ?_
  · exact ent_of [] rfl (tm_cons rfl (sm_same rfl) (tm_cons rfl (sm_same rfl) (tm_cons rfl (sm_same rfl) (tm_cons rfl (sm_same rfl) (tm_cons rfl (sm_same rfl) (tm_cons rfl (sm_same rfl) tm_nil)))))) hp_nil
  obtain ⟨i, j⟩ := s
  obtain ⟨h1, h2, h3, h4⟩ := hs
  dsimp only at h1 h2 h3 h4
  refine of_eq (bsK_L0 ex l x (i, j) 0 _) ?_
  dsimp only
  rw [half (i + j) (by omega)]
  refine ⟨fun h => ?_, fun h => ?_⟩
  · simp only [decide_eq_true_eq] at h
    have hlt : i < j := by omega
    obtain ⟨m, hm'⟩ : ∃ m, m = (i + j) / 2 := ⟨_, rfl⟩
    rw [← hm', Int.toNat_natCast]
    have hmono : ∀ a b, a < b → b < l.length → cmpI (kAt l b).1 x < 0 → cmpI (kAt l a).1 x < 0 := fun a b hab hb hc => hm a b hab hb (Int.le_of_lt hc)
    refine ⟨(by first | omega | decide | (unfold I64; omega)), (by first | omega | decide | (unfold I64; omega)), (by first | omega | decide | (unfold I64; omega)), (by first | omega | decide | (unfold I64; omega)), find1_fun (kAt l m) x, trivial, fun h5 => ⟨(by first | omega | decide | (unfold I64; omega)), ?_⟩, fun h5 => ?_⟩
    · have h5 : cmpI (kAt l m).1 x < 0 := of_decide_eq_true h5
      exact round_end (m + 1, j) ⟨by dsimp only; omega, h2, fun k hk => by
        dsimp only at hk
        by_cases e : k = m
        · rw [e]; exact h5
        · exact hmono k m (by omega) (by omega) h5, h4⟩ (ent_of [] rfl (tm_cons rfl (sm_same rfl) (tm_cons rfl (sm_same rfl) (tm_cons rfl (sm_same rfl) (tm_cons rfl (sm_same rfl) (tm_cons rfl (sm_same rfl) (tm_cons rfl (sm_same rfl) tm_nil)))))) hp_nil) (by dsimp only; omega)
    · have h5 : ¬ cmpI (kAt l m).1 x < 0 := of_decide_eq_false h5
      exact round_end (i, m) ⟨by dsimp only; omega, by dsimp only; omega, h3, fun k hk hkl => by
        dsimp only at hk
        by_cases e : k = m
        · rw [e]; omega
        · by_cases hc : cmpI (kAt l k).1 x < 0
          · exact absurd (hmono m k (by omega) hkl hc) h5
          · omega⟩ (ent_of [] rfl (tm_cons rfl (sm_same rfl) (tm_cons rfl (sm_same rfl) (tm_cons rfl (sm_same rfl) (tm_cons rfl (sm_same rfl) (tm_cons rfl (sm_same rfl) (tm_cons rfl (sm_same rfl) tm_nil)))))) hp_nil) (by dsimp only; omega)
  · simp only [decide_eq_false_iff_not] at h
    obtain rfl : j = i := by omega
    have hI : bsI (fun y => cmpI y.1 x) l = j := bs_at (d := (0, 0, 0)) h2 h3 h4
    refine ⟨fun h5 => ⟨by simp only [decide_eq_true_eq] at h5; omega, find1_fun (kAt l j) x, trivial, ?_⟩, fun h5 => ?_⟩
    · simp only [decide_eq_true_eq] at h5
      rw [hI, bs_has (d := (0, 0, 0)) hm (by omega) h3 (h4 j (Nat.le_refl _) (by omega))]
      exact post_tup rfl rfl (sm_int rfl) (sm_sb (beq_dec _ _)) rfl
    · simp only [decide_eq_false_iff_not] at h5
      rw [hI, bs_none (d := (0, 0, 0)) fun k hk => h3 k (by omega)]
      exact post_tup rfl rfl (sm_int rfl) (sm_b rfl) rfl
end Go.Bu.W

