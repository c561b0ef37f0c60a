/- The seat's types and variables, for the abstract machine. -/
import Derived.Test.YtfioagkihgaimaaDoorK11
import Derived.Test.YtfioagkihgaimaaDoorChecked
namespace Go.Bu.W
def tys : List TI := [
  ⟨.other, 0, 0⟩,
  ⟨.func, 1, 8⟩,
  ⟨.int .i64, 1, 8⟩,
  ⟨.int .i64, 1, 8⟩,
  ⟨.bool, 1, 1⟩,
  ⟨.int .u8, 1, 1⟩,
  ⟨.int .u8, 1, 1⟩,
  ⟨.struct [(2, 0), (3, 1), (4, 2), (6, 3)], 4, 24⟩,
  ⟨.struct [(2, 0), (3, 1), (4, 2), (6, 3)], 4, 24⟩,
  ⟨.str, 1, 16⟩,
  ⟨.str, 1, 16⟩,
  ⟨.str, 1, 16⟩,
  ⟨.int .u64, 1, 8⟩,
  ⟨.other, 0, 0⟩,
  ⟨.other, 0, 0⟩,
  ⟨.ptr 81, 1, 8⟩,
  ⟨.ptr 84, 1, 8⟩,
  ⟨.ptr 94, 1, 8⟩,
  ⟨.other, 0, 0⟩,
  ⟨.other, 0, 0⟩,
  ⟨.iface, 1, 16⟩,
  ⟨.int .i32, 1, 4⟩,
  ⟨.array 32 5 false, 32, 32⟩,
  ⟨.array 32 5 false, 32, 32⟩,
  ⟨.slice 5, 1, 24⟩,
  ⟨.func, 1, 8⟩,
  ⟨.func, 1, 8⟩,
  ⟨.func, 1, 8⟩,
  ⟨.func, 1, 8⟩,
  ⟨.int .i64, 1, 8⟩,
  ⟨.struct [(24, 0), (29, 1)], 2, 32⟩,
  ⟨.struct [(24, 0), (29, 1)], 2, 32⟩,
  ⟨.func, 1, 8⟩,
  ⟨.func, 1, 8⟩,
  ⟨.array 2 23 false, 64, 64⟩,
  ⟨.array 2 3 false, 2, 16⟩,
  ⟨.func, 1, 8⟩,
  ⟨.func, 1, 8⟩,
  ⟨.array 3 5 false, 3, 3⟩,
  ⟨.func, 1, 8⟩,
  ⟨.array 2 24 false, 2, 48⟩,
  ⟨.func, 1, 8⟩,
  ⟨.func, 1, 8⟩,
  ⟨.func, 1, 8⟩,
  ⟨.func, 1, 8⟩,
  ⟨.func, 1, 8⟩,
  ⟨.func, 1, 8⟩,
  ⟨.func, 1, 8⟩,
  ⟨.func, 1, 8⟩,
  ⟨.other, 0, 0⟩,
  ⟨.func, 1, 8⟩,
  ⟨.func, 1, 8⟩,
  ⟨.slice 24, 1, 24⟩,
  ⟨.func, 1, 8⟩,
  ⟨.func, 1, 8⟩,
  ⟨.func, 1, 8⟩,
  ⟨.func, 1, 8⟩,
  ⟨.func, 1, 8⟩,
  ⟨.func, 1, 8⟩,
  ⟨.func, 1, 8⟩,
  ⟨.int .u64, 1, 8⟩,
  ⟨.func, 1, 8⟩,
  ⟨.func, 1, 8⟩,
  ⟨.func, 1, 8⟩,
  ⟨.int .u64, 1, 8⟩,
  ⟨.func, 1, 8⟩,
  ⟨.array 5 64 false, 5, 40⟩,
  ⟨.array 5 66 false, 25, 200⟩,
  ⟨.array 24 64 false, 24, 192⟩,
  ⟨.func, 1, 8⟩,
  ⟨.func, 1, 8⟩,
  ⟨.array 25 3 false, 25, 200⟩,
  ⟨.func, 1, 8⟩,
  ⟨.array 25 64 false, 25, 200⟩,
  ⟨.array 25 64 false, 25, 200⟩,
  ⟨.func, 1, 8⟩,
  ⟨.func, 1, 8⟩,
  ⟨.func, 1, 8⟩,
  ⟨.func, 1, 8⟩,
  ⟨.func, 1, 8⟩,
  ⟨.other, 0, 0⟩,
  ⟨.other, 0, 0⟩,
  ⟨.other, 0, 0⟩,
  ⟨.other, 0, 0⟩,
  ⟨.other, 0, 0⟩,
  ⟨.func, 1, 8⟩,
  ⟨.int .u32, 1, 4⟩,
  ⟨.int .u8, 1, 1⟩,
  ⟨.int .u8, 1, 1⟩,
  ⟨.func, 1, 8⟩,
  ⟨.ptr 5, 1, 8⟩,
  ⟨.int .i32, 1, 4⟩,
  ⟨.int .i32, 1, 4⟩,
  ⟨.other, 0, 0⟩,
  ⟨.other, 0, 0⟩,
  ⟨.other, 0, 0⟩]


def wordsAV : AV := .arr 24 1 (fun i => u64 (Sp.wordsN i))
def gls (g : Nat) : Option AV := match g with | 0 => some wordsAV | _ => none
def C : Ctx := ⟨ttOf tys, gls⟩
noncomputable abbrev P : Program := Proofs.Tryd.prog

set_option maxRecDepth 100000 in
theorem ctx : CtxOK C P := ctx_ok (by kernel_rfl) (by kernel_rfl) (by kernel_rfl) (by kernel_rfl)
theorem mixed : P.follows .mixedOrders = true := Checked.mixed Proofs.Tryd.checked
end Go.Bu.W

namespace Go.Bu.W
abbrev F_sum : Nat := 41
noncomputable def b_sum : Code := Proofs.Tryd.f41.body.getD .skip
abbrev l_sum_0 : List Nat := [1, 1, 1, 1, 0, 0]
abbrev l_sum_1 : List Nat := [1, 1, 1, 1, 1, 1, 1, 1, 1, 1, 1, 0, 1, 0]
theorem in_sum {W : Way} (hW : W.nt = 52) {args : List AV} {H : List (Nat × Blk)} {r : AV} {H' : List (Nat × Blk)} (k : Nat) (hl : args.length ≤ 52) (hno : noTups args = true) (hk : ∀ id, look H id ≠ none → id < k)
    (hv : Holds C P 52 [] k (FunPost C 52 k [.cell 2 23] r H') (vc C W b_sum [] (start args H) lf)) : Fun C P F_sum args H r H' := by
  refine fun_of (W := W) ctx mixed (fn := Proofs.Tryd.f41) (c := b_sum) Proofs.Tryd.func41 (by kernel_rfl) (by kernel_rfl) (by kernel_rfl) (by rw [hW]; kernel_rfl) (by rw [hW]; exact hl) hno k hk ?_
  rw [hW, show Proofs.Tryd.f41.results.toList = [.cell 2 23] by kernel_rfl]
  exact hv
abbrev F_rsum : Nat := 39
noncomputable def b_rsum : Code := Proofs.Tryd.f39.body.getD .skip
abbrev l_rsum_0 : List Nat := [1, 1, 1, 0, 0]
abbrev l_rsum_1 : List Nat := [1, 1, 1, 1, 1, 1, 1, 0, 1, 0]
abbrev l_rsum_2 : List Nat := [1, 1, 1, 1, 1, 1, 1, 0, 1, 0, 0, 1, 0, 0, 0, 1, 0]
abbrev l_rsum_3 : List Nat := [1, 1, 1, 1, 1, 1, 1, 0, 1, 0, 0, 1, 0, 0, 0, 1, 0, 0, 1, 0, 0, 1, 0, 1, 0]
abbrev l_rsum_4 : List Nat := [1, 1, 1, 1, 1, 1, 1, 0, 1, 0, 0, 1, 0, 0, 1, 1, 0]
abbrev l_rsum_5 : List Nat := [1, 1, 1, 1, 1, 1, 1, 1, 1, 0, 1, 0]
theorem in_rsum {W : Way} (hW : W.nt = 105) {args : List AV} {H : List (Nat × Blk)} {r : AV} {H' : List (Nat × Blk)} (k : Nat) (hl : args.length ≤ 105) (hno : noTups args = true) (hk : ∀ id, look H id ≠ none → id < k)
    (hv : Holds C P 105 [] k (FunPost C 105 k [.cell 2 23] r H') (vc C W b_rsum [] (start args H) lf)) : Fun C P F_rsum args H r H' := by
  refine fun_of (W := W) ctx mixed (fn := Proofs.Tryd.f39) (c := b_rsum) Proofs.Tryd.func39 (by kernel_rfl) (by kernel_rfl) (by kernel_rfl) (by rw [hW]; kernel_rfl) (by rw [hW]; exact hl) hno k hk ?_
  rw [hW, show Proofs.Tryd.f39.results.toList = [.cell 2 23] by kernel_rfl]
  exact hv
abbrev F_of : Nat := 32
noncomputable def b_of : Code := Proofs.Tryd.f32.body.getD .skip
abbrev l_of_0 : List Nat := [1, 1, 0, 1, 0]
theorem in_of {W : Way} (hW : W.nt = 27) {args : List AV} {H : List (Nat × Blk)} {r : AV} {H' : List (Nat × Blk)} (k : Nat) (hl : args.length ≤ 27) (hno : noTups args = true) (hk : ∀ id, look H id ≠ none → id < k)
    (hv : Holds C P 27 [] k (FunPost C 27 k [.cell 4 23] r H') (vc C W b_of [] (start args H) lf)) : Fun C P F_of args H r H' := by
  refine fun_of (W := W) ctx mixed (fn := Proofs.Tryd.f32) (c := b_of) Proofs.Tryd.func32 (by kernel_rfl) (by kernel_rfl) (by kernel_rfl) (by rw [hW]; kernel_rfl) (by rw [hW]; exact hl) hno k hk ?_
  rw [hW, show Proofs.Tryd.f32.results.toList = [.cell 4 23] by kernel_rfl]
  exact hv
abbrev F_rof : Nat := 30
noncomputable def b_rof : Code := Proofs.Tryd.f30.body.getD .skip
theorem in_rof {W : Way} (hW : W.nt = 9) {args : List AV} {H : List (Nat × Blk)} {r : AV} {H' : List (Nat × Blk)} (k : Nat) (hl : args.length ≤ 9) (hno : noTups args = true) (hk : ∀ id, look H id ≠ none → id < k)
    (hv : Holds C P 9 [] k (FunPost C 9 k [.cell 4 23] r H') (vc C W b_rof [] (start args H) lf)) : Fun C P F_rof args H r H' := by
  refine fun_of (W := W) ctx mixed (fn := Proofs.Tryd.f30) (c := b_rof) Proofs.Tryd.func30 (by kernel_rfl) (by kernel_rfl) (by kernel_rfl) (by rw [hW]; kernel_rfl) (by rw [hW]; exact hl) hno k hk ?_
  rw [hW, show Proofs.Tryd.f30.results.toList = [.cell 4 23] by kernel_rfl]
  exact hv
abbrev F_stream : Nat := 17
noncomputable def b_stream : Code := Proofs.Tryd.f17.body.getD .skip
abbrev l_stream_0 : List Nat := [1, 1, 0, 1, 0]
theorem in_stream {W : Way} (hW : W.nt = 32) {args : List AV} {H : List (Nat × Blk)} {r : AV} {H' : List (Nat × Blk)} (k : Nat) (hl : args.length ≤ 32) (hno : noTups args = true) (hk : ∀ id, look H id ≠ none → id < k)
    (hv : Holds C P 32 [] k (FunPost C 32 k [.tmp 6] r H') (vc C W b_stream [] (start args H) lf)) : Fun C P F_stream args H r H' := by
  refine fun_of (W := W) ctx mixed (fn := Proofs.Tryd.f17) (c := b_stream) Proofs.Tryd.func17 (by kernel_rfl) (by kernel_rfl) (by kernel_rfl) (by rw [hW]; kernel_rfl) (by rw [hW]; exact hl) hno k hk ?_
  rw [hW, show Proofs.Tryd.f17.results.toList = [.tmp 6] by kernel_rfl]
  exact hv
abbrev F_rstream : Nat := 18
noncomputable def b_rstream : Code := Proofs.Tryd.f18.body.getD .skip
abbrev l_rstream_0 : List Nat := [1, 1, 0, 0]
theorem in_rstream {W : Way} (hW : W.nt = 27) {args : List AV} {H : List (Nat × Blk)} {r : AV} {H' : List (Nat × Blk)} (k : Nat) (hl : args.length ≤ 27) (hno : noTups args = true) (hk : ∀ id, look H id ≠ none → id < k)
    (hv : Holds C P 27 [] k (FunPost C 27 k [.tmp 6] r H') (vc C W b_rstream [] (start args H) lf)) : Fun C P F_rstream args H r H' := by
  refine fun_of (W := W) ctx mixed (fn := Proofs.Tryd.f18) (c := b_rstream) Proofs.Tryd.func18 (by kernel_rfl) (by kernel_rfl) (by kernel_rfl) (by rw [hW]; kernel_rfl) (by rw [hW]; exact hl) hno k hk ?_
  rw [hW, show Proofs.Tryd.f18.results.toList = [.tmp 6] by kernel_rfl]
  exact hv
abbrev F_bytes : Nat := 40
noncomputable def b_bytes : Code := Proofs.Tryd.f40.body.getD .skip
abbrev l_bytes_0 : List Nat := [1, 1, 0, 1, 0]
theorem in_bytes {W : Way} (hW : W.nt = 30) {args : List AV} {H : List (Nat × Blk)} {r : AV} {H' : List (Nat × Blk)} (k : Nat) (hl : args.length ≤ 30) (hno : noTups args = true) (hk : ∀ id, look H id ≠ none → id < k)
    (hv : Holds C P 30 [] k (FunPost C 30 k [.tmp 4] r H') (vc C W b_bytes [] (start args H) lf)) : Fun C P F_bytes args H r H' := by
  refine fun_of (W := W) ctx mixed (fn := Proofs.Tryd.f40) (c := b_bytes) Proofs.Tryd.func40 (by kernel_rfl) (by kernel_rfl) (by kernel_rfl) (by rw [hW]; kernel_rfl) (by rw [hW]; exact hl) hno k hk ?_
  rw [hW, show Proofs.Tryd.f40.results.toList = [.tmp 4] by kernel_rfl]
  exact hv
abbrev F_reight : Nat := 42
noncomputable def b_reight : Code := Proofs.Tryd.f42.body.getD .skip
abbrev l_reight_0 : List Nat := [1, 1, 0, 1, 0]
theorem in_reight {W : Way} (hW : W.nt = 20) {args : List AV} {H : List (Nat × Blk)} {r : AV} {H' : List (Nat × Blk)} (k : Nat) (hl : args.length ≤ 20) (hno : noTups args = true) (hk : ∀ id, look H id ≠ none → id < k)
    (hv : Holds C P 20 [] k (FunPost C 20 k [.tmp 2] r H') (vc C W b_reight [] (start args H) lf)) : Fun C P F_reight args H r H' := by
  refine fun_of (W := W) ctx mixed (fn := Proofs.Tryd.f42) (c := b_reight) Proofs.Tryd.func42 (by kernel_rfl) (by kernel_rfl) (by kernel_rfl) (by rw [hW]; kernel_rfl) (by rw [hW]; exact hl) hno k hk ?_
  rw [hW, show Proofs.Tryd.f42.results.toList = [.tmp 2] by kernel_rfl]
  exact hv
abbrev F_turns : Nat := 46
noncomputable def b_turns : Code := Proofs.Tryd.f46.body.getD .skip
abbrev l_turns_0 : List Nat := [1, 1, 1, 0, 1, 0]
theorem in_turns {W : Way} (hW : W.nt = 29) {args : List AV} {H : List (Nat × Blk)} {r : AV} {H' : List (Nat × Blk)} (k : Nat) (hl : args.length ≤ 29) (hno : noTups args = true) (hk : ∀ id, look H id ≠ none → id < k)
    (hv : Holds C P 29 [] k (FunPost C 29 k [.cell 0 71] r H') (vc C W b_turns [] (start args H) lf)) : Fun C P F_turns args H r H' := by
  refine fun_of (W := W) ctx mixed (fn := Proofs.Tryd.f46) (c := b_turns) Proofs.Tryd.func46 (by kernel_rfl) (by kernel_rfl) (by kernel_rfl) (by rw [hW]; kernel_rfl) (by rw [hW]; exact hl) hno k hk ?_
  rw [hW, show Proofs.Tryd.f46.results.toList = [.cell 0 71] by kernel_rfl]
  exact hv
abbrev F_mix : Nat := 47
noncomputable def b_mix : Code := Proofs.Tryd.f47.body.getD .skip
abbrev l_mix_0 : List Nat := [0, 1, 0]
abbrev l_mix_1 : List Nat := [1, 1, 0]
theorem in_mix {W : Way} (hW : W.nt = 37) {args : List AV} {H : List (Nat × Blk)} {r : AV} {H' : List (Nat × Blk)} (k : Nat) (hl : args.length ≤ 37) (hno : noTups args = true) (hk : ∀ id, look H id ≠ none → id < k)
    (hv : Holds C P 37 [] k (FunPost C 37 k [] r H') (vc C W b_mix [] (start args H) lf)) : Fun C P F_mix args H r H' := by
  refine fun_of (W := W) ctx mixed (fn := Proofs.Tryd.f47) (c := b_mix) Proofs.Tryd.func47 (by kernel_rfl) (by kernel_rfl) (by kernel_rfl) (by rw [hW]; kernel_rfl) (by rw [hW]; exact hl) hno k hk ?_
  rw [hW, show Proofs.Tryd.f47.results.toList = [] by kernel_rfl]
  exact hv
abbrev F_round : Nat := 48
noncomputable def b_round : Code := Proofs.Tryd.f48.body.getD .skip
abbrev l_round_0 : List Nat := [1, 1, 0, 1, 0]
abbrev l_round_1 : List Nat := [1, 1, 1, 1, 0, 1, 0]
abbrev l_round_2 : List Nat := [1, 1, 1, 1, 1, 0, 1, 0]
theorem in_round {W : Way} (hW : W.nt = 104) {args : List AV} {H : List (Nat × Blk)} {r : AV} {H' : List (Nat × Blk)} (k : Nat) (hl : args.length ≤ 104) (hno : noTups args = true) (hk : ∀ id, look H id ≠ none → id < k)
    (hv : Holds C P 104 [] k (FunPost C 104 k [.cell 6 74] r H') (vc C W b_round [] (start args H) lf)) : Fun C P F_round args H r H' := by
  refine fun_of (W := W) ctx mixed (fn := Proofs.Tryd.f48) (c := b_round) Proofs.Tryd.func48 (by kernel_rfl) (by kernel_rfl) (by kernel_rfl) (by rw [hW]; kernel_rfl) (by rw [hW]; exact hl) hno k hk ?_
  rw [hW, show Proofs.Tryd.f48.results.toList = [.cell 6 74] by kernel_rfl]
  exact hv
abbrev F_rwords : Nat := 44
noncomputable def b_rwords : Code := Proofs.Tryd.f44.body.getD .skip
theorem in_rwords {W : Way} (hW : W.nt = 2) {args : List AV} {H : List (Nat × Blk)} {r : AV} {H' : List (Nat × Blk)} (k : Nat) (hl : args.length ≤ 2) (hno : noTups args = true) (hk : ∀ id, look H id ≠ none → id < k)
    (hv : Holds C P 2 [] k (FunPost C 2 k [.cell 0 68] r H') (vc C W b_rwords [] (start args H) lf)) : Fun C P F_rwords args H r H' := by
  refine fun_of (W := W) ctx mixed (fn := Proofs.Tryd.f44) (c := b_rwords) Proofs.Tryd.func44 (by kernel_rfl) (by kernel_rfl) (by kernel_rfl) (by rw [hW]; kernel_rfl) (by rw [hW]; exact hl) hno k hk ?_
  rw [hW, show Proofs.Tryd.f44.results.toList = [.cell 0 68] by kernel_rfl]
  exact hv
abbrev F_rround : Nat := 45
noncomputable def b_rround : Code := Proofs.Tryd.f45.body.getD .skip
abbrev l_rround_0 : List Nat := [1, 1, 0, 1, 0]
abbrev l_rround_1 : List Nat := [1, 1, 1, 0, 1, 0]
abbrev l_rround_2 : List Nat := [1, 1, 1, 0, 1, 0, 0, 1, 0, 0, 1, 1, 0]
abbrev l_rround_3 : List Nat := [1, 1, 1, 1, 1, 1, 0, 1, 0]
abbrev l_rround_4 : List Nat := [1, 1, 1, 1, 1, 1, 1, 1, 0, 1, 0]
abbrev l_rround_5 : List Nat := [1, 1, 1, 1, 1, 1, 1, 1, 0, 1, 0, 0, 1, 0, 0, 1, 0]
abbrev l_rround_6 : List Nat := [1, 1, 1, 1, 1, 1, 1, 1, 1, 0, 1, 0]
abbrev l_rround_7 : List Nat := [1, 1, 1, 1, 1, 1, 1, 1, 1, 0, 1, 0, 0, 1, 0, 0, 1, 0]
theorem in_rround {W : Way} (hW : W.nt = 173) {args : List AV} {H : List (Nat × Blk)} {r : AV} {H' : List (Nat × Blk)} (k : Nat) (hl : args.length ≤ 173) (hno : noTups args = true) (hk : ∀ id, look H id ≠ none → id < k)
    (hv : Holds C P 173 [] k (FunPost C 173 k [.cell 4 67] r H') (vc C W b_rround [] (start args H) lf)) : Fun C P F_rround args H r H' := by
  refine fun_of (W := W) ctx mixed (fn := Proofs.Tryd.f45) (c := b_rround) Proofs.Tryd.func45 (by kernel_rfl) (by kernel_rfl) (by kernel_rfl) (by rw [hW]; kernel_rfl) (by rw [hW]; exact hl) hno k hk ?_
  rw [hW, show Proofs.Tryd.f45.results.toList = [.cell 4 67] by kernel_rfl]
  exact hv
abbrev F_eight : Nat := 33
noncomputable def b_eight : Code := Proofs.Tryd.f33.body.getD .skip
abbrev l_eight_0 : List Nat := [1, 1, 0, 1, 0]
theorem in_eight {W : Way} (hW : W.nt = 18) {args : List AV} {H : List (Nat × Blk)} {r : AV} {H' : List (Nat × Blk)} (k : Nat) (hl : args.length ≤ 18) (hno : noTups args = true) (hk : ∀ id, look H id ≠ none → id < k)
    (hv : Holds C P 18 [] k (FunPost C 18 k [.tmp 2] r H') (vc C W b_eight [] (start args H) lf)) : Fun C P F_eight args H r H' := by
  refine fun_of (W := W) ctx mixed (fn := Proofs.Tryd.f33) (c := b_eight) Proofs.Tryd.func33 (by kernel_rfl) (by kernel_rfl) (by kernel_rfl) (by rw [hW]; kernel_rfl) (by rw [hW]; exact hl) hno k hk ?_
  rw [hW, show Proofs.Tryd.f33.results.toList = [.tmp 2] by kernel_rfl]
  exact hv
abbrev F_block : Nat := 34
noncomputable def b_block : Code := Proofs.Tryd.f34.body.getD .skip
theorem in_block {W : Way} (hW : W.nt = 14) {args : List AV} {H : List (Nat × Blk)} {r : AV} {H' : List (Nat × Blk)} (k : Nat) (hl : args.length ≤ 14) (hno : noTups args = true) (hk : ∀ id, look H id ≠ none → id < k)
    (hv : Holds C P 14 [] k (FunPost C 14 k [.cell 6 23] r H') (vc C W b_block [] (start args H) lf)) : Fun C P F_block args H r H' := by
  refine fun_of (W := W) ctx mixed (fn := Proofs.Tryd.f34) (c := b_block) Proofs.Tryd.func34 (by kernel_rfl) (by kernel_rfl) (by kernel_rfl) (by rw [hW]; kernel_rfl) (by rw [hW]; exact hl) hno k hk ?_
  rw [hW, show Proofs.Tryd.f34.results.toList = [.cell 6 23] by kernel_rfl]
  exact hv
abbrev F_rotl : Nat := 50
noncomputable def b_rotl : Code := Proofs.Tryd.f50.body.getD .skip
theorem in_rotl {W : Way} (hW : W.nt = 17) {args : List AV} {H : List (Nat × Blk)} {r : AV} {H' : List (Nat × Blk)} (k : Nat) (hl : args.length ≤ 17) (hno : noTups args = true) (hk : ∀ id, look H id ≠ none → id < k)
    (hv : Holds C P 17 [] k (FunPost C 17 k [.tmp 4] r H') (vc C W b_rotl [] (start args H) lf)) : Fun C P F_rotl args H r H' := by
  refine fun_of (W := W) ctx mixed (fn := Proofs.Tryd.f50) (c := b_rotl) Proofs.Tryd.func50 (by kernel_rfl) (by kernel_rfl) (by kernel_rfl) (by rw [hW]; kernel_rfl) (by rw [hW]; exact hl) hno k hk ?_
  rw [hW, show Proofs.Tryd.f50.results.toList = [.tmp 4] by kernel_rfl]
  exact hv
abbrev F_left : Nat := 49
noncomputable def b_left : Code := Proofs.Tryd.f49.body.getD .skip
theorem in_left {W : Way} (hW : W.nt = 13) {args : List AV} {H : List (Nat × Blk)} {r : AV} {H' : List (Nat × Blk)} (k : Nat) (hl : args.length ≤ 13) (hno : noTups args = true) (hk : ∀ id, look H id ≠ none → id < k)
    (hv : Holds C P 13 [] k (FunPost C 13 k [.tmp 4] r H') (vc C W b_left [] (start args H) lf)) : Fun C P F_left args H r H' := by
  refine fun_of (W := W) ctx mixed (fn := Proofs.Tryd.f49) (c := b_left) Proofs.Tryd.func49 (by kernel_rfl) (by kernel_rfl) (by kernel_rfl) (by rw [hW]; kernel_rfl) (by rw [hW]; exact hl) hno k hk ?_
  rw [hW, show Proofs.Tryd.f49.results.toList = [.tmp 4] by kernel_rfl]
  exact hv
abbrev F_slo : Nat := 3
noncomputable def b_slo : Code := Proofs.Tryd.f3.body.getD .skip
theorem in_slo {W : Way} (hW : W.nt = 43) {args : List AV} {H : List (Nat × Blk)} {r : AV} {H' : List (Nat × Blk)} (k : Nat) (hl : args.length ≤ 43) (hno : noTups args = true) (hk : ∀ id, look H id ≠ none → id < k)
    (hv : Holds C P 43 [] k (FunPost C 43 k [.tmp 6] r H') (vc C W b_slo [] (start args H) lf)) : Fun C P F_slo args H r H' := by
  refine fun_of (W := W) ctx mixed (fn := Proofs.Tryd.f3) (c := b_slo) Proofs.Tryd.func3 (by kernel_rfl) (by kernel_rfl) (by kernel_rfl) (by rw [hW]; kernel_rfl) (by rw [hW]; exact hl) hno k hk ?_
  rw [hW, show Proofs.Tryd.f3.results.toList = [.tmp 6] by kernel_rfl]
  exact hv
abbrev F_slk : Nat := 4
noncomputable def b_slk : Code := Proofs.Tryd.f4.body.getD .skip
theorem in_slk {W : Way} (hW : W.nt = 75) {args : List AV} {H : List (Nat × Blk)} {r : AV} {H' : List (Nat × Blk)} (k : Nat) (hl : args.length ≤ 75) (hno : noTups args = true) (hk : ∀ id, look H id ≠ none → id < k)
    (hv : Holds C P 75 [] k (FunPost C 75 k [.tmp 6] r H') (vc C W b_slk [] (start args H) lf)) : Fun C P F_slk args H r H' := by
  refine fun_of (W := W) ctx mixed (fn := Proofs.Tryd.f4) (c := b_slk) Proofs.Tryd.func4 (by kernel_rfl) (by kernel_rfl) (by kernel_rfl) (by rw [hW]; kernel_rfl) (by rw [hW]; exact hl) hno k hk ?_
  rw [hW, show Proofs.Tryd.f4.results.toList = [.tmp 6] by kernel_rfl]
  exact hv
abbrev F_slc : Nat := 5
noncomputable def b_slc : Code := Proofs.Tryd.f5.body.getD .skip
theorem in_slc {W : Way} (hW : W.nt = 89) {args : List AV} {H : List (Nat × Blk)} {r : AV} {H' : List (Nat × Blk)} (k : Nat) (hl : args.length ≤ 89) (hno : noTups args = true) (hk : ∀ id, look H id ≠ none → id < k)
    (hv : Holds C P 89 [] k (FunPost C 89 k [.tmp 6] r H') (vc C W b_slc [] (start args H) lf)) : Fun C P F_slc args H r H' := by
  refine fun_of (W := W) ctx mixed (fn := Proofs.Tryd.f5) (c := b_slc) Proofs.Tryd.func5 (by kernel_rfl) (by kernel_rfl) (by kernel_rfl) (by rw [hW]; kernel_rfl) (by rw [hW]; exact hl) hno k hk ?_
  rw [hW, show Proofs.Tryd.f5.results.toList = [.tmp 6] by kernel_rfl]
  exact hv
abbrev F_sln : Nat := 6
noncomputable def b_sln : Code := Proofs.Tryd.f6.body.getD .skip
abbrev l_sln_0 : List Nat := [1, 1, 1, 1, 1, 1, 0, 1, 0]
theorem in_sln {W : Way} (hW : W.nt = 114) {args : List AV} {H : List (Nat × Blk)} {r : AV} {H' : List (Nat × Blk)} (k : Nat) (hl : args.length ≤ 114) (hno : noTups args = true) (hk : ∀ id, look H id ≠ none → id < k)
    (hv : Holds C P 114 [] k (FunPost C 114 k [.tmp 6] r H') (vc C W b_sln [] (start args H) lf)) : Fun C P F_sln args H r H' := by
  refine fun_of (W := W) ctx mixed (fn := Proofs.Tryd.f6) (c := b_sln) Proofs.Tryd.func6 (by kernel_rfl) (by kernel_rfl) (by kernel_rfl) (by rw [hW]; kernel_rfl) (by rw [hW]; exact hl) hno k hk ?_
  rw [hW, show Proofs.Tryd.f6.results.toList = [.tmp 6] by kernel_rfl]
  exact hv
abbrev F_slm : Nat := 7
noncomputable def b_slm : Code := Proofs.Tryd.f7.body.getD .skip
theorem in_slm {W : Way} (hW : W.nt = 108) {args : List AV} {H : List (Nat × Blk)} {r : AV} {H' : List (Nat × Blk)} (k : Nat) (hl : args.length ≤ 108) (hno : noTups args = true) (hk : ∀ id, look H id ≠ none → id < k)
    (hv : Holds C P 108 [] k (FunPost C 108 k [.tmp 6] r H') (vc C W b_slm [] (start args H) lf)) : Fun C P F_slm args H r H' := by
  refine fun_of (W := W) ctx mixed (fn := Proofs.Tryd.f7) (c := b_slm) Proofs.Tryd.func7 (by kernel_rfl) (by kernel_rfl) (by kernel_rfl) (by rw [hW]; kernel_rfl) (by rw [hW]; exact hl) hno k hk ?_
  rw [hW, show Proofs.Tryd.f7.results.toList = [.tmp 6] by kernel_rfl]
  exact hv
abbrev F_slr : Nat := 8
noncomputable def b_slr : Code := Proofs.Tryd.f8.body.getD .skip
theorem in_slr {W : Way} (hW : W.nt = 80) {args : List AV} {H : List (Nat × Blk)} {r : AV} {H' : List (Nat × Blk)} (k : Nat) (hl : args.length ≤ 80) (hno : noTups args = true) (hk : ∀ id, look H id ≠ none → id < k)
    (hv : Holds C P 80 [] k (FunPost C 80 k [.tmp 6] r H') (vc C W b_slr [] (start args H) lf)) : Fun C P F_slr args H r H' := by
  refine fun_of (W := W) ctx mixed (fn := Proofs.Tryd.f8) (c := b_slr) Proofs.Tryd.func8 (by kernel_rfl) (by kernel_rfl) (by kernel_rfl) (by rw [hW]; kernel_rfl) (by rw [hW]; exact hl) hno k hk ?_
  rw [hW, show Proofs.Tryd.f8.results.toList = [.tmp 6] by kernel_rfl]
  exact hv
abbrev F_sls : Nat := 9
noncomputable def b_sls : Code := Proofs.Tryd.f9.body.getD .skip
theorem in_sls {W : Way} (hW : W.nt = 58) {args : List AV} {H : List (Nat × Blk)} {r : AV} {H' : List (Nat × Blk)} (k : Nat) (hl : args.length ≤ 58) (hno : noTups args = true) (hk : ∀ id, look H id ≠ none → id < k)
    (hv : Holds C P 58 [] k (FunPost C 58 k [.tmp 4] r H') (vc C W b_sls [] (start args H) lf)) : Fun C P F_sls args H r H' := by
  refine fun_of (W := W) ctx mixed (fn := Proofs.Tryd.f9) (c := b_sls) Proofs.Tryd.func9 (by kernel_rfl) (by kernel_rfl) (by kernel_rfl) (by rw [hW]; kernel_rfl) (by rw [hW]; exact hl) hno k hk ?_
  rw [hW, show Proofs.Tryd.f9.results.toList = [.tmp 4] by kernel_rfl]
  exact hv
abbrev F_sanity : Nat := 10
noncomputable def b_sanity : Code := Proofs.Tryd.f10.body.getD .skip
theorem in_sanity {W : Way} (hW : W.nt = 60) {args : List AV} {H : List (Nat × Blk)} {r : AV} {H' : List (Nat × Blk)} (k : Nat) (hl : args.length ≤ 60) (hno : noTups args = true) (hk : ∀ id, look H id ≠ none → id < k)
    (hv : Holds C P 60 [] k (FunPost C 60 k [.tmp 0] r H') (vc C W b_sanity [] (start args H) lf)) : Fun C P F_sanity args H r H' := by
  refine fun_of (W := W) ctx mixed (fn := Proofs.Tryd.f10) (c := b_sanity) Proofs.Tryd.func10 (by kernel_rfl) (by kernel_rfl) (by kernel_rfl) (by rw [hW]; kernel_rfl) (by rw [hW]; exact hl) hno k hk ?_
  rw [hW, show Proofs.Tryd.f10.results.toList = [.tmp 0] by kernel_rfl]
  exact hv
abbrev F_short : Nat := 11
noncomputable def b_short : Code := Proofs.Tryd.f11.body.getD .skip
theorem in_short {W : Way} (hW : W.nt = 10) {args : List AV} {H : List (Nat × Blk)} {r : AV} {H' : List (Nat × Blk)} (k : Nat) (hl : args.length ≤ 10) (hno : noTups args = true) (hk : ∀ id, look H id ≠ none → id < k)
    (hv : Holds C P 10 [] k (FunPost C 10 k [.tmp 2] r H') (vc C W b_short [] (start args H) lf)) : Fun C P F_short args H r H' := by
  refine fun_of (W := W) ctx mixed (fn := Proofs.Tryd.f11) (c := b_short) Proofs.Tryd.func11 (by kernel_rfl) (by kernel_rfl) (by kernel_rfl) (by rw [hW]; kernel_rfl) (by rw [hW]; exact hl) hno k hk ?_
  rw [hW, show Proofs.Tryd.f11.results.toList = [.tmp 2] by kernel_rfl]
  exact hv
abbrev F_seal : Nat := 12
noncomputable def b_seal : Code := Proofs.Tryd.f12.body.getD .skip
theorem in_seal {W : Way} (hW : W.nt = 21) {args : List AV} {H : List (Nat × Blk)} {r : AV} {H' : List (Nat × Blk)} (k : Nat) (hl : args.length ≤ 21) (hno : noTups args = true) (hk : ∀ id, look H id ≠ none → id < k)
    (hv : Holds C P 21 [] k (FunPost C 21 k [.tmp 6] r H') (vc C W b_seal [] (start args H) lf)) : Fun C P F_seal args H r H' := by
  refine fun_of (W := W) ctx mixed (fn := Proofs.Tryd.f12) (c := b_seal) Proofs.Tryd.func12 (by kernel_rfl) (by kernel_rfl) (by kernel_rfl) (by rw [hW]; kernel_rfl) (by rw [hW]; exact hl) hno k hk ?_
  rw [hW, show Proofs.Tryd.f12.results.toList = [.tmp 6] by kernel_rfl]
  exact hv
abbrev F_same : Nat := 13
noncomputable def b_same : Code := Proofs.Tryd.f13.body.getD .skip
theorem in_same {W : Way} (hW : W.nt = 19) {args : List AV} {H : List (Nat × Blk)} {r : AV} {H' : List (Nat × Blk)} (k : Nat) (hl : args.length ≤ 19) (hno : noTups args = true) (hk : ∀ id, look H id ≠ none → id < k)
    (hv : Holds C P 19 [] k (FunPost C 19 k [.tmp 4] r H') (vc C W b_same [] (start args H) lf)) : Fun C P F_same args H r H' := by
  refine fun_of (W := W) ctx mixed (fn := Proofs.Tryd.f13) (c := b_same) Proofs.Tryd.func13 (by kernel_rfl) (by kernel_rfl) (by kernel_rfl) (by rw [hW]; kernel_rfl) (by rw [hW]; exact hl) hno k hk ?_
  rw [hW, show Proofs.Tryd.f13.results.toList = [.tmp 4] by kernel_rfl]
  exact hv
abbrev F_opened : Nat := 14
noncomputable def b_opened : Code := Proofs.Tryd.f14.body.getD .skip
theorem in_opened {W : Way} (hW : W.nt = 19) {args : List AV} {H : List (Nat × Blk)} {r : AV} {H' : List (Nat × Blk)} (k : Nat) (hl : args.length ≤ 19) (hno : noTups args = true) (hk : ∀ id, look H id ≠ none → id < k)
    (hv : Holds C P 19 [] k (FunPost C 19 k [.cell 6 31] r H') (vc C W b_opened [] (start args H) lf)) : Fun C P F_opened args H r H' := by
  refine fun_of (W := W) ctx mixed (fn := Proofs.Tryd.f14) (c := b_opened) Proofs.Tryd.func14 (by kernel_rfl) (by kernel_rfl) (by kernel_rfl) (by rw [hW]; kernel_rfl) (by rw [hW]; exact hl) hno k hk ?_
  rw [hW, show Proofs.Tryd.f14.results.toList = [.cell 6 31] by kernel_rfl]
  exact hv
abbrev F_rtag : Nat := 15
noncomputable def b_rtag : Code := Proofs.Tryd.f15.body.getD .skip
theorem in_rtag {W : Way} (hW : W.nt = 12) {args : List AV} {H : List (Nat × Blk)} {r : AV} {H' : List (Nat × Blk)} (k : Nat) (hl : args.length ≤ 12) (hno : noTups args = true) (hk : ∀ id, look H id ≠ none → id < k)
    (hv : Holds C P 12 [] k (FunPost C 12 k [.cell 6 23] r H') (vc C W b_rtag [] (start args H) lf)) : Fun C P F_rtag args H r H' := by
  refine fun_of (W := W) ctx mixed (fn := Proofs.Tryd.f15) (c := b_rtag) Proofs.Tryd.func15 (by kernel_rfl) (by kernel_rfl) (by kernel_rfl) (by rw [hW]; kernel_rfl) (by rw [hW]; exact hl) hno k hk ?_
  rw [hW, show Proofs.Tryd.f15.results.toList = [.cell 6 23] by kernel_rfl]
  exact hv
abbrev F_right : Nat := 16
noncomputable def b_right : Code := Proofs.Tryd.f16.body.getD .skip
abbrev l_right_0 : List Nat := [1, 1, 1, 1, 0, 1, 0]
theorem in_right {W : Way} (hW : W.nt = 35) {args : List AV} {H : List (Nat × Blk)} {r : AV} {H' : List (Nat × Blk)} (k : Nat) (hl : args.length ≤ 35) (hno : noTups args = true) (hk : ∀ id, look H id ≠ none → id < k)
    (hv : Holds C P 35 [] k (FunPost C 35 k [.tmp 6] r H') (vc C W b_right [] (start args H) lf)) : Fun C P F_right args H r H' := by
  refine fun_of (W := W) ctx mixed (fn := Proofs.Tryd.f16) (c := b_right) Proofs.Tryd.func16 (by kernel_rfl) (by kernel_rfl) (by kernel_rfl) (by rw [hW]; kernel_rfl) (by rw [hW]; exact hl) hno k hk ?_
  rw [hW, show Proofs.Tryd.f16.results.toList = [.tmp 6] by kernel_rfl]
  exact hv
abbrev F_rseal : Nat := 19
noncomputable def b_rseal : Code := Proofs.Tryd.f19.body.getD .skip
abbrev l_rseal_0 : List Nat := [1, 1, 1, 0, 1, 0]
theorem in_rseal {W : Way} (hW : W.nt = 29) {args : List AV} {H : List (Nat × Blk)} {r : AV} {H' : List (Nat × Blk)} (k : Nat) (hl : args.length ≤ 29) (hno : noTups args = true) (hk : ∀ id, look H id ≠ none → id < k)
    (hv : Holds C P 29 [] k (FunPost C 29 k [.tmp 6] r H') (vc C W b_rseal [] (start args H) lf)) : Fun C P F_rseal args H r H' := by
  refine fun_of (W := W) ctx mixed (fn := Proofs.Tryd.f19) (c := b_rseal) Proofs.Tryd.func19 (by kernel_rfl) (by kernel_rfl) (by kernel_rfl) (by rw [hW]; kernel_rfl) (by rw [hW]; exact hl) hno k hk ?_
  rw [hW, show Proofs.Tryd.f19.results.toList = [.tmp 6] by kernel_rfl]
  exact hv
abbrev F_size : Nat := 20
noncomputable def b_size : Code := Proofs.Tryd.f20.body.getD .skip
theorem in_size {W : Way} (hW : W.nt = 7) {args : List AV} {H : List (Nat × Blk)} {r : AV} {H' : List (Nat × Blk)} (k : Nat) (hl : args.length ≤ 7) (hno : noTups args = true) (hk : ∀ id, look H id ≠ none → id < k)
    (hv : Holds C P 7 [] k (FunPost C 7 k [.tmp 2] r H') (vc C W b_size [] (start args H) lf)) : Fun C P F_size args H r H' := by
  refine fun_of (W := W) ctx mixed (fn := Proofs.Tryd.f20) (c := b_size) Proofs.Tryd.func20 (by kernel_rfl) (by kernel_rfl) (by kernel_rfl) (by rw [hW]; kernel_rfl) (by rw [hW]; exact hl) hno k hk ?_
  rw [hW, show Proofs.Tryd.f20.results.toList = [.tmp 2] by kernel_rfl]
  exact hv
abbrev F_rsize : Nat := 21
noncomputable def b_rsize : Code := Proofs.Tryd.f21.body.getD .skip
theorem in_rsize {W : Way} (hW : W.nt = 7) {args : List AV} {H : List (Nat × Blk)} {r : AV} {H' : List (Nat × Blk)} (k : Nat) (hl : args.length ≤ 7) (hno : noTups args = true) (hk : ∀ id, look H id ≠ none → id < k)
    (hv : Holds C P 7 [] k (FunPost C 7 k [.tmp 2] r H') (vc C W b_rsize [] (start args H) lf)) : Fun C P F_rsize args H r H' := by
  refine fun_of (W := W) ctx mixed (fn := Proofs.Tryd.f21) (c := b_rsize) Proofs.Tryd.func21 (by kernel_rfl) (by kernel_rfl) (by kernel_rfl) (by rw [hW]; kernel_rfl) (by rw [hW]; exact hl) hno k hk ?_
  rw [hW, show Proofs.Tryd.f21.results.toList = [.tmp 2] by kernel_rfl]
  exact hv
abbrev F_openin : Nat := 22
noncomputable def b_openin : Code := Proofs.Tryd.f22.body.getD .skip
theorem in_openin {W : Way} (hW : W.nt = 22) {args : List AV} {H : List (Nat × Blk)} {r : AV} {H' : List (Nat × Blk)} (k : Nat) (hl : args.length ≤ 22) (hno : noTups args = true) (hk : ∀ id, look H id ≠ none → id < k)
    (hv : Holds C P 22 [] k (FunPost C 22 k [.cell 6 31] r H') (vc C W b_openin [] (start args H) lf)) : Fun C P F_openin args H r H' := by
  refine fun_of (W := W) ctx mixed (fn := Proofs.Tryd.f22) (c := b_openin) Proofs.Tryd.func22 (by kernel_rfl) (by kernel_rfl) (by kernel_rfl) (by rw [hW]; kernel_rfl) (by rw [hW]; exact hl) hno k hk ?_
  rw [hW, show Proofs.Tryd.f22.results.toList = [.cell 6 31] by kernel_rfl]
  exact hv
abbrev F_rekeyed : Nat := 23
noncomputable def b_rekeyed : Code := Proofs.Tryd.f23.body.getD .skip
theorem in_rekeyed {W : Way} (hW : W.nt = 22) {args : List AV} {H : List (Nat × Blk)} {r : AV} {H' : List (Nat × Blk)} (k : Nat) (hl : args.length ≤ 22) (hno : noTups args = true) (hk : ∀ id, look H id ≠ none → id < k)
    (hv : Holds C P 22 [] k (FunPost C 22 k [.cell 8 31] r H') (vc C W b_rekeyed [] (start args H) lf)) : Fun C P F_rekeyed args H r H' := by
  refine fun_of (W := W) ctx mixed (fn := Proofs.Tryd.f23) (c := b_rekeyed) Proofs.Tryd.func23 (by kernel_rfl) (by kernel_rfl) (by kernel_rfl) (by rw [hW]; kernel_rfl) (by rw [hW]; exact hl) hno k hk ?_
  rw [hW, show Proofs.Tryd.f23.results.toList = [.cell 8 31] by kernel_rfl]
  exact hv
abbrev F_rekeyin : Nat := 24
noncomputable def b_rekeyin : Code := Proofs.Tryd.f24.body.getD .skip
theorem in_rekeyin {W : Way} (hW : W.nt = 24) {args : List AV} {H : List (Nat × Blk)} {r : AV} {H' : List (Nat × Blk)} (k : Nat) (hl : args.length ≤ 24) (hno : noTups args = true) (hk : ∀ id, look H id ≠ none → id < k)
    (hv : Holds C P 24 [] k (FunPost C 24 k [.cell 8 31] r H') (vc C W b_rekeyin [] (start args H) lf)) : Fun C P F_rekeyin args H r H' := by
  refine fun_of (W := W) ctx mixed (fn := Proofs.Tryd.f24) (c := b_rekeyin) Proofs.Tryd.func24 (by kernel_rfl) (by kernel_rfl) (by kernel_rfl) (by rw [hW]; kernel_rfl) (by rw [hW]; exact hl) hno k hk ?_
  rw [hW, show Proofs.Tryd.f24.results.toList = [.cell 8 31] by kernel_rfl]
  exact hv
abbrev F_rkey : Nat := 25
noncomputable def b_rkey : Code := Proofs.Tryd.f25.body.getD .skip
abbrev l_rkey_0 : List Nat := [1, 1, 0, 1, 0]
theorem in_rkey {W : Way} (hW : W.nt = 14) {args : List AV} {H : List (Nat × Blk)} {r : AV} {H' : List (Nat × Blk)} (k : Nat) (hl : args.length ≤ 14) (hno : noTups args = true) (hk : ∀ id, look H id ≠ none → id < k)
    (hv : Holds C P 14 [] k (FunPost C 14 k [.cell 2 23] r H') (vc C W b_rkey [] (start args H) lf)) : Fun C P F_rkey args H r H' := by
  refine fun_of (W := W) ctx mixed (fn := Proofs.Tryd.f25) (c := b_rkey) Proofs.Tryd.func25 (by kernel_rfl) (by kernel_rfl) (by kernel_rfl) (by rw [hW]; kernel_rfl) (by rw [hW]; exact hl) hno k hk ?_
  rw [hW, show Proofs.Tryd.f25.results.toList = [.cell 2 23] by kernel_rfl]
  exact hv
abbrev F_smix : Nat := 26
noncomputable def b_smix : Code := Proofs.Tryd.f26.body.getD .skip
theorem in_smix {W : Way} (hW : W.nt = 26) {args : List AV} {H : List (Nat × Blk)} {r : AV} {H' : List (Nat × Blk)} (k : Nat) (hl : args.length ≤ 26) (hno : noTups args = true) (hk : ∀ id, look H id ≠ none → id < k)
    (hv : Holds C P 26 [] k (FunPost C 26 k [.tmp 6] r H') (vc C W b_smix [] (start args H) lf)) : Fun C P F_smix args H r H' := by
  refine fun_of (W := W) ctx mixed (fn := Proofs.Tryd.f26) (c := b_smix) Proofs.Tryd.func26 (by kernel_rfl) (by kernel_rfl) (by kernel_rfl) (by rw [hW]; kernel_rfl) (by rw [hW]; exact hl) hno k hk ?_
  rw [hW, show Proofs.Tryd.f26.results.toList = [.tmp 6] by kernel_rfl]
  exact hv
abbrev F_tag : Nat := 27
noncomputable def b_tag : Code := Proofs.Tryd.f27.body.getD .skip
theorem in_tag {W : Way} (hW : W.nt = 25) {args : List AV} {H : List (Nat × Blk)} {r : AV} {H' : List (Nat × Blk)} (k : Nat) (hl : args.length ≤ 25) (hno : noTups args = true) (hk : ∀ id, look H id ≠ none → id < k)
    (hv : Holds C P 25 [] k (FunPost C 25 k [.cell 6 23] r H') (vc C W b_tag [] (start args H) lf)) : Fun C P F_tag args H r H' := by
  refine fun_of (W := W) ctx mixed (fn := Proofs.Tryd.f27) (c := b_tag) Proofs.Tryd.func27 (by kernel_rfl) (by kernel_rfl) (by kernel_rfl) (by rw [hW]; kernel_rfl) (by rw [hW]; exact hl) hno k hk ?_
  rw [hW, show Proofs.Tryd.f27.results.toList = [.cell 6 23] by kernel_rfl]
  exact hv
abbrev F_concat : Nat := 28
noncomputable def b_concat : Code := Proofs.Tryd.f28.body.getD .skip
abbrev l_concat_0 : List Nat := [1, 1, 0, 1, 0]
abbrev l_concat_1 : List Nat := [1, 1, 1, 1, 0, 1, 0]
theorem in_concat {W : Way} (hW : W.nt = 36) {args : List AV} {H : List (Nat × Blk)} {r : AV} {H' : List (Nat × Blk)} (k : Nat) (hl : args.length ≤ 36) (hno : noTups args = true) (hk : ∀ id, look H id ≠ none → id < k)
    (hv : Holds C P 36 [] k (FunPost C 36 k [.tmp 2] r H') (vc C W b_concat [] (start args H) lf)) : Fun C P F_concat args H r H' := by
  refine fun_of (W := W) ctx mixed (fn := Proofs.Tryd.f28) (c := b_concat) Proofs.Tryd.func28 (by kernel_rfl) (by kernel_rfl) (by kernel_rfl) (by rw [hW]; kernel_rfl) (by rw [hW]; exact hl) hno k hk ?_
  rw [hW, show Proofs.Tryd.f28.results.toList = [.tmp 2] by kernel_rfl]
  exact hv
abbrev F_open : Nat := 29
noncomputable def b_open : Code := Proofs.Tryd.f29.body.getD .skip
theorem in_open {W : Way} (hW : W.nt = 34) {args : List AV} {H : List (Nat × Blk)} {r : AV} {H' : List (Nat × Blk)} (k : Nat) (hl : args.length ≤ 34) (hno : noTups args = true) (hk : ∀ id, look H id ≠ none → id < k)
    (hv : Holds C P 34 [] k (FunPost C 34 k [.tmp 6, .tmp 7] r H') (vc C W b_open [] (start args H) lf)) : Fun C P F_open args H r H' := by
  refine fun_of (W := W) ctx mixed (fn := Proofs.Tryd.f29) (c := b_open) Proofs.Tryd.func29 (by kernel_rfl) (by kernel_rfl) (by kernel_rfl) (by rw [hW]; kernel_rfl) (by rw [hW]; exact hl) hno k hk ?_
  rw [hW, show Proofs.Tryd.f29.results.toList = [.tmp 6, .tmp 7] by kernel_rfl]
  exact hv
abbrev F_parts : Nat := 31
noncomputable def b_parts : Code := Proofs.Tryd.f31.body.getD .skip
abbrev l_parts_0 : List Nat := [1, 1, 0, 1, 0]
theorem in_parts {W : Way} (hW : W.nt = 35) {args : List AV} {H : List (Nat × Blk)} {r : AV} {H' : List (Nat × Blk)} (k : Nat) (hl : args.length ≤ 35) (hno : noTups args = true) (hk : ∀ id, look H id ≠ none → id < k)
    (hv : Holds C P 35 [] k (FunPost C 35 k [.tmp 6] r H') (vc C W b_parts [] (start args H) lf)) : Fun C P F_parts args H r H' := by
  refine fun_of (W := W) ctx mixed (fn := Proofs.Tryd.f31) (c := b_parts) Proofs.Tryd.func31 (by kernel_rfl) (by kernel_rfl) (by kernel_rfl) (by rw [hW]; kernel_rfl) (by rw [hW]; exact hl) hno k hk ?_
  rw [hW, show Proofs.Tryd.f31.results.toList = [.tmp 6] by kernel_rfl]
  exact hv
abbrev F_noise : Nat := 35
noncomputable def b_noise : Code := Proofs.Tryd.f35.body.getD .skip
abbrev l_noise_0 : List Nat := [1, 1, 0, 1, 0]
theorem in_noise {W : Way} (hW : W.nt = 35) {args : List AV} {H : List (Nat × Blk)} {r : AV} {H' : List (Nat × Blk)} (k : Nat) (hl : args.length ≤ 35) (hno : noTups args = true) (hk : ∀ id, look H id ≠ none → id < k)
    (hv : Holds C P 35 [] k (FunPost C 35 k [.tmp 6] r H') (vc C W b_noise [] (start args H) lf)) : Fun C P F_noise args H r H' := by
  refine fun_of (W := W) ctx mixed (fn := Proofs.Tryd.f35) (c := b_noise) Proofs.Tryd.func35 (by kernel_rfl) (by kernel_rfl) (by kernel_rfl) (by rw [hW]; kernel_rfl) (by rw [hW]; exact hl) hno k hk ?_
  rw [hW, show Proofs.Tryd.f35.results.toList = [.tmp 6] by kernel_rfl]
  exact hv
abbrev F_rekey : Nat := 36
noncomputable def b_rekey : Code := Proofs.Tryd.f36.body.getD .skip
theorem in_rekey {W : Way} (hW : W.nt = 26) {args : List AV} {H : List (Nat × Blk)} {r : AV} {H' : List (Nat × Blk)} (k : Nat) (hl : args.length ≤ 26) (hno : noTups args = true) (hk : ∀ id, look H id ≠ none → id < k)
    (hv : Holds C P 26 [] k (FunPost C 26 k [.tmp 8, .tmp 9] r H') (vc C W b_rekey [] (start args H) lf)) : Fun C P F_rekey args H r H' := by
  refine fun_of (W := W) ctx mixed (fn := Proofs.Tryd.f36) (c := b_rekey) Proofs.Tryd.func36 (by kernel_rfl) (by kernel_rfl) (by kernel_rfl) (by rw [hW]; kernel_rfl) (by rw [hW]; exact hl) hno k hk ?_
  rw [hW, show Proofs.Tryd.f36.results.toList = [.tmp 8, .tmp 9] by kernel_rfl]
  exact hv
abbrev F_pairs : Nat := 37
noncomputable def b_pairs : Code := Proofs.Tryd.f37.body.getD .skip
theorem in_pairs {W : Way} (hW : W.nt = 6) {args : List AV} {H : List (Nat × Blk)} {r : AV} {H' : List (Nat × Blk)} (k : Nat) (hl : args.length ≤ 6) (hno : noTups args = true) (hk : ∀ id, look H id ≠ none → id < k)
    (hv : Holds C P 6 [] k (FunPost C 6 k [.tmp 4] r H') (vc C W b_pairs [] (start args H) lf)) : Fun C P F_pairs args H r H' := by
  refine fun_of (W := W) ctx mixed (fn := Proofs.Tryd.f37) (c := b_pairs) Proofs.Tryd.func37 (by kernel_rfl) (by kernel_rfl) (by kernel_rfl) (by rw [hW]; kernel_rfl) (by rw [hW]; exact hl) hno k hk ?_
  rw [hW, show Proofs.Tryd.f37.results.toList = [.tmp 4] by kernel_rfl]
  exact hv
abbrev F_grow : Nat := 38
noncomputable def b_grow : Code := Proofs.Tryd.f38.body.getD .skip
theorem in_grow {W : Way} (hW : W.nt = 27) {args : List AV} {H : List (Nat × Blk)} {r : AV} {H' : List (Nat × Blk)} (k : Nat) (hl : args.length ≤ 27) (hno : noTups args = true) (hk : ∀ id, look H id ≠ none → id < k)
    (hv : Holds C P 27 [] k (FunPost C 27 k [.tmp 4] r H') (vc C W b_grow [] (start args H) lf)) : Fun C P F_grow args H r H' := by
  refine fun_of (W := W) ctx mixed (fn := Proofs.Tryd.f38) (c := b_grow) Proofs.Tryd.func38 (by kernel_rfl) (by kernel_rfl) (by kernel_rfl) (by rw [hW]; kernel_rfl) (by rw [hW]; exact hl) hno k hk ?_
  rw [hW, show Proofs.Tryd.f38.results.toList = [.tmp 4] by kernel_rfl]
  exact hv
abbrev F_pairs1 : Nat := 43
noncomputable def b_pairs1 : Code := Proofs.Tryd.f43.body.getD .skip
abbrev l_pairs1_0 : List Nat := [1, 0]
theorem in_pairs1 {W : Way} (hW : W.nt = 22) {args : List AV} {H : List (Nat × Blk)} {r : AV} {H' : List (Nat × Blk)} (k : Nat) (hl : args.length ≤ 22) (hno : noTups args = true) (hk : ∀ id, look H id ≠ none → id < k)
    (hv : Holds C P 22 [] k (FunPost C 22 k [] r H') (vc C W b_pairs1 [] (start args H) lf)) : Fun C P F_pairs1 args H r H' := by
  refine fun_of (W := W) ctx mixed (fn := Proofs.Tryd.f43) (c := b_pairs1) Proofs.Tryd.func43 (by kernel_rfl) (by kernel_rfl) (by kernel_rfl) (by rw [hW]; kernel_rfl) (by rw [hW]; exact hl) hno k hk ?_
  rw [hW, show Proofs.Tryd.f43.results.toList = [] by kernel_rfl]
  exact hv
end Go.Bu.W

namespace Go.Bu.W
open Sp

/-- What the sponge's functions return. -/
def crRotl : List AV → Option (AV × List (Nat × Blk))
  | [x, k] => some (u64 (rotl (asN x) (asN k % 64)), [])
  | _ => none
def crRound : List AV → Option (AV × List (Nat × Blk))
  | [.arr _ _ a, _, k] => some (.arr 25 1 (fun i => u64 (roundN (dN a) (asN k) i)), [])
  | _ => none
def turnsAV : AV := .arr 25 1 (fun i => i64 (turnsN i))
def crMix : List AV → List (Nat × Blk) → Option (AV × List (Nat × Blk))
  | [.dat n _ _ f, .ptr 0 [], .ptr 1 []], [(0, .c (.arr _ _ a)), (1, .c by')] => some (.tup [], [(0, .c (.arr 25 1 (fun i => u64 (mixN (dN a) (dN f) n i)))), (1, .c by')])
  | [.sl 0 [] 0 n _ _ _, .ptr 1 [], .ptr 2 []], [(0, .c (.arr k e f)), (1, .c (.arr _ _ a)), (2, .c by')] => some (.tup [], [(0, .c (.arr k e f)), (1, .c (.arr 25 1 (fun i => u64 (mixN (dN a) (dN f) n i)))), (2, .c by')])
  | _, _ => none
def sumAV (l : List Nat) : AV := .arr 32 1 (fun i => u8 (sumN l i))
def crSum : List AV → Option (AV × List (Nat × Blk))
  | [.dat n _ _ f] => some (sumAV (bytesL n f), [])
  | _ => none
abbrev ab (n : Nat) (f : Nat → Nat) : AV := .arr n 1 (fun i => u8 (f i))
abbrev db (n : Nat) (ex : Bool) (f : Nat → Nat) : AV := .dat n ex 1 (fun i => u8 (f i))
/-- A list of bytes of one's own; as data. -/
abbrev ownB (l : List Nat) : AV × List (Nat × Blk) := (.sl 0 [] 0 l.length l.length false 1, [(0, .c (.arr l.length 1 (rowL l)))])
abbrev rowB (l : List Nat) : AV := .dat l.length false 1 (rowL l)
def crEight : List AV → Option (AV × List (Nat × Blk))
  | [x] => some (.sl 0 [] 0 8 8 false 1, [(0, .c (ab 8 (eightN (asI x))))])
  | _ => none
def crOf : List AV → Option (AV × List (Nat × Blk))
  | [x, .dat n _ _ f] => some (sumAV (ofBytes (asN x) (partsL n f)), [])
  | _ => none
def streamN (key : List Nat) (id : Int) (n : Nat) (i : Nat) : Nat := (streamL key id n).getD i 0
def crStream : List AV → Option (AV × List (Nat × Blk))
  | [.arr n _ f, id, k] => some (.sl 0 [] 0 (asI k).toNat (asI k).toNat false 1, [(0, .c (ab (asI k).toNat (streamN (bytesL n f) (asI id) (asI k).toNat)))])
  | _ => none
def sel (b : Bool) (x y : Option (AV × List (Nat × Blk))) : Option (AV × List (Nat × Blk)) := match b with | true => x | false => y
def crSp (g : Nat) (args : List AV) (H : List (Nat × Blk)) : Option (AV × List (Nat × Blk)) :=
  sel (Nat.beq g F_rotl) (crRotl args) <| sel (Nat.beq g F_round) (crRound args) <| sel (Nat.beq g F_turns) (some (turnsAV, [])) <|
  sel (Nat.beq g F_mix) (crMix args H) <| sel (Nat.beq g F_sum) (crSum args) <| sel (Nat.beq g F_eight) (crEight args) <|
  sel (Nat.beq g F_of) (crOf args) <| sel (Nat.beq g F_stream) (crStream args) none
def way (keep : List Nat) (nt : Nat) (cuts : List Nat) : Way := ⟨crSp, fun g => Nat.beq g F_mix, keep, [], nt, cuts⟩
def w_rotl : Way := way [0, 1, 4, 5] 17 []
def w_turns : Way := way [0, 1, 2, 3, 4, 5, 6] 29 []

def pos : Nat → Nat × Nat
  | 0 => (1, 0)
  | t + 1 => ((pos t).2, (2 * (pos t).1 + 3 * (pos t).2) % 5)
def tN : Nat → Nat → Nat
  | 0, _ => 0
  | t + 1, j => if j = (pos t).1 + 5 * (pos t).2 then (t + 1) * (t + 2) / 2 % 64 else tN t j
def I_turns (t : Nat) : St := { tm := [(0, .ptr 0 []), (1, .ptr 1 []), (2, i64 (pos t).1), (3, i64 (pos t).2), (5, i64 t)], hp := [(0, .c (.arr 25 1 (fun _ => .i 0))), (1, .c (.arr 25 1 (fun j => i64 (tN t j))))], seen := [0, 1] }

theorem rotl_A (x k : Nat) (K : Nat) (Φ : Ex → St → Prop) :
  (Holds C P 17 [] K Φ (vc C w_rotl b_rotl [] (start [u64 x, i64 k] []) lf)) =
  (((0 : Int) ≤ (bAnd IntKind.u64 (IntKind.wrap IntKind.u64 ((k : Nat) : Int)) (63 : Int))) ∧
 (((0 : Int) ≤ (IntKind.wrap IntKind.u64 ((64 : Int) - (bAnd IntKind.u64 (IntKind.wrap IntKind.u64 ((k : Nat) : Int)) (63 : Int))))) ∧
 (Φ Ex.ret (St.mk [((0 : Nat), (AV.v (Value.int IntKind.u64 ((x : Nat) : Int)))), ((1 : Nat), (AV.v (Value.int IntKind.i64 ((k : Nat) : Int)))), ((4 : Nat), (AV.v (Value.int IntKind.u64 (bOr IntKind.u64 (bShl IntKind.u64 ((x : Nat) : Int) (bAnd IntKind.u64 (IntKind.wrap IntKind.u64 ((k : Nat) : Int)) (63 : Int))) (bShr IntKind.u64 ((x : Nat) : Int) (IntKind.wrap IntKind.u64 ((64 : Int) - (bAnd IntKind.u64 (IntKind.wrap IntKind.u64 ((k : Nat) : Int)) (63 : Int))))))))), ((5 : Nat), (AV.v (Value.int IntKind.u64 (bAnd IntKind.u64 (IntKind.wrap IntKind.u64 ((k : Nat) : Int)) (63 : Int)))))] [] [])))) := by kernel_rfl

theorem and63 (k : Nat) : bAnd IntKind.u64 (IntKind.wrap IntKind.u64 (k : Int)) 63 = ((k % 64 : Nat) : Int) := by
  have h := and64 (a := k % 2 ^ 64) (b := 63) (Nat.mod_lt _ (by decide)) (by decide)
  rw [wrap_u64]
  refine h.trans ?_
  rw [show (63 : Nat) = 2 ^ 6 - 1 by rfl, Nat.and_two_pow_sub_one_eq_mod]
  congr 1
  omega

theorem rotl_fun (x k : Nat) (hx : x < 2 ^ 64) : Fun C P F_rotl [u64 x, i64 k] [] (u64 (rotl x (k % 64))) [] := by
  refine in_rotl (W := w_rotl) rfl 0 (by simp) rfl (fun id h => absurd rfl h) ?_
  refine of_eq (rotl_A x k 0 _) ?_
  have e2 : IntKind.wrap IntKind.u64 ((64 : Int) - ((k % 64 : Nat) : Int)) = ((64 - k % 64 : Nat) : Int) := by
    rw [show (64 : Int) - ((k % 64 : Nat) : Int) = ((64 - k % 64 : Nat) : Int) by omega, wrap_u64]
    congr 1; omega
  rw [and63, e2, shl64, shr64 _ _ hx, or64 (Nat.mod_lt _ (by decide)) (by rw [Nat.shiftRight_eq_div_pow]; exact Nat.lt_of_le_of_lt (Nat.div_le_self _ _) hx)]
  exact ⟨by omega, by omega, post_tmp rfl (sm_int rfl)⟩

theorem turns_A  (K : Nat) (Φ : Ex → St → Prop) :
  (Holds C P 29 [] K Φ (vc C w_turns b_turns [] (start [] []) lf)) =
  (LoopOK W.C W.P (29 : Nat) [] K (bodyAt b_turns [1, 1, 1, 0, 1, 0]) (St.mk [((0 : Nat), (AV.ptr (0 : Nat) [])), ((1 : Nat), (AV.ptr (1 : Nat) [])), ((2 : Nat), (AV.v (Value.int IntKind.i64 (1 : Int)))), ((3 : Nat), (AV.v (Value.int IntKind.i64 (0 : Int)))), ((5 : Nat), (AV.v (Value.int IntKind.i64 (0 : Int))))] [((0 : Nat), (Blk.c (AV.arr (25 : Nat) (1 : Nat) (fun (x : Nat) => (AV.v (Value.int IntKind.i64 (0 : Int))))))), ((1 : Nat), (Blk.c (AV.arr (25 : Nat) (1 : Nat) (fun (x : Nat) => (AV.v (Value.int IntKind.i64 (0 : Int)))))))] [(1 : Nat), (0 : Nat)]) (fun (e : Ex) (S' : St) => Holds W.C W.P (29 : Nat) [] K Φ (after W.C w_turns b_turns [1, 1, 1, 0, 1, 0] [] lf e S'))) := by kernel_rfl
noncomputable abbrev bd_turns_0 : Code := bodyAt (b_turns) [1, 1, 1, 0, 1, 0]
theorem ok_turns_0 : codeOK bd_turns_0 = true := by kernel_rfl
noncomputable abbrev rest_turns_0 (K : Nat) (Φ : Ex → St → Prop) : Ex → St → Prop := fun e S' => Holds C P 29 [] K Φ (after C w_turns (b_turns) [1, 1, 1, 0, 1, 0] [] lf e S')
theorem turns_L0 (t : Nat) (K : Nat) (Φ : Ex → St → Prop) :
  (Holds C P 29 [] K (RoundQ C 29 [] K (I_turns) (fun t => t ≤ 24) (fun t => 24 - t) ((fun t => 24 - t) (t)) (rest_turns_0 K Φ)) (vc C w_turns bd_turns_0 [] ((I_turns) (t)) lf)) =
  (((decide (((t : Nat) : Int) < (24 : Int))) = true → 
 ((I64 (((5 * (Prod.snd (W.pos t))) : Nat) : Int)) ∧
  ((I64 ((((Prod.fst (W.pos t)) + (5 * (Prod.snd (W.pos t)))) : Nat) : Int)) ∧
  ((I64 (((t + 1) : Nat) : Int)) ∧
  ((I64 (((t + 2) : Nat) : Int)) ∧
  ((I64 ((((t + 1) * (t + 2)) : Nat) : Int)) ∧
  (((2 : Int) ≠ (0 : Int)) ∧
  ((I64 (((((t + 1) * (t + 2)) / 2) : Nat) : Int)) ∧
  (((64 : Int) ≠ (0 : Int)) ∧
  ((((0 : Int) ≤ ((((Prod.fst (W.pos t)) + (5 * (Prod.snd (W.pos t)))) : Nat) : Int)) ∧ (((((Prod.fst (W.pos t)) + (5 * (Prod.snd (W.pos t)))) : Nat) : Int) < (25 : Int))) ∧
  ((I64 (((2 * (Prod.fst (W.pos t))) : Nat) : Int)) ∧
  ((I64 (((3 * (Prod.snd (W.pos t))) : Nat) : Int)) ∧
  ((I64 ((((2 * (Prod.fst (W.pos t))) + (3 * (Prod.snd (W.pos t)))) : Nat) : Int)) ∧
  (((5 : Int) ≠ (0 : Int)) ∧
  ((I64 (((t + 1) : Nat) : Int)) ∧
  ((RoundQ C 29 [] K (I_turns) (fun t => t ≤ 24) (fun t => 24 - t) ((fun t => 24 - t) (t)) (rest_turns_0 K Φ)) Ex.normal (St.mk [((0 : Nat), (AV.ptr (0 : Nat) [])), ((1 : Nat), (AV.ptr (1 : Nat) [])), ((2 : Nat), (AV.v (Value.int IntKind.i64 (((Prod.snd (W.pos t)) : Nat) : Int)))), ((3 : Nat), (AV.v (Value.int IntKind.i64 (((((2 * (Prod.fst (W.pos t))) + (3 * (Prod.snd (W.pos t)))) % 5) : Nat) : Int)))), ((4 : Nat), (AV.v (Value.int IntKind.i64 ((t : Nat) : Int)))), ((5 : Nat), (AV.v (Value.int IntKind.i64 (((t + 1) : Nat) : Int)))), ((6 : Nat), (AV.v (Value.bool true)))] [((0 : Nat), (Blk.c (AV.arr (25 : Nat) (1 : Nat) (fun (x : Nat) => (AV.v (Value.int IntKind.i64 (0 : Int))))))), ((1 : Nat), (Blk.c (AV.arr (25 : Nat) (1 : Nat) (fun (j : Nat) => (if (j = ((Prod.fst (W.pos t)) + (5 * (Prod.snd (W.pos t))))) then (AV.v (Value.int IntKind.i64 ((((((t + 1) * (t + 2)) / 2) % 64) : Nat) : Int))) else (AV.v (Value.int IntKind.i64 (((W.tN t j) : Nat) : Int))))))))] [(0 : Nat), (1 : Nat)]))))))))))))))))) ∧
 ((decide (((t : Nat) : Int) < (24 : Int))) = false → 
 ((((25 : Nat) = (25 : Nat)) ∧ (((1 : Nat) = (1 : Nat)) ∧ (∀ (i : Nat), ((i < (25 : Nat)) → ((true = true) ∧ (Bool.true = true)))))) ∧
  (Φ Ex.ret (St.mk [((0 : Nat), (AV.ptr (0 : Nat) [])), ((1 : Nat), (AV.ptr (1 : Nat) [])), ((2 : Nat), (AV.v (Value.int IntKind.i64 (((Prod.fst (W.pos t)) : Nat) : Int)))), ((3 : Nat), (AV.v (Value.int IntKind.i64 (((Prod.snd (W.pos t)) : Nat) : Int)))), ((5 : Nat), (AV.v (Value.int IntKind.i64 ((t : Nat) : Int)))), ((6 : Nat), (AV.v (Value.bool false)))] [((0 : Nat), (Blk.c (AV.arr (25 : Nat) (1 : Nat) (fun (j : Nat) => (AV.v (Value.int IntKind.i64 (((W.tN t j) : Nat) : Int))))))), ((1 : Nat), (Blk.c (AV.arr (25 : Nat) (1 : Nat) (fun (j : Nat) => (AV.v (Value.int IntKind.i64 (((W.tN t j) : Nat) : Int)))))))] [(0 : Nat), (1 : Nat)]))))) := by kernel_rfl

theorem pos_lt : ∀ t, (pos t).1 < 5 ∧ (pos t).2 < 5
  | 0 => by decide
  | t + 1 => ⟨(pos_lt t).2, Nat.mod_lt _ (by decide)⟩

theorem turns_fun : Fun C P F_turns [] [] turnsAV [] := by
  refine in_turns (W := w_turns) rfl 0 (by simp) rfl (fun id h => absurd rfl h) ?_
  refine of_eq (turns_A 0 _) ?_
  refine loop_inv (W := w_turns) ctx mixed ok_turns_0 I_turns (fun t => t ≤ 24) (fun t => 24 - t) 0 (by decide) ?_ fun t ht => ?_
  · exact ent_of [(0, 0), (1, 1)] rfl (tm_cons rfl (sm_ptr rfl) (tm_cons rfl (sm_ptr rfl) (tm_cons rfl (sm_same rfl) (tm_cons rfl (sm_same rfl) (tm_cons rfl (sm_same rfl) tm_nil))))) (hp_cons rfl rfl (sm_same rfl) (hp_cons rfl rfl (sm_same rfl) hp_nil))
  · refine of_eq (turns_L0 t 0 _) ?_
    have hp := pos_lt t
    refine ⟨fun h => ?_, fun h => ?_⟩
    · simp only [decide_eq_true_eq] at h
      have h1 : t < 24 := by omega
      have ez : tN (t + 1) = fun j => if j = (pos t).1 + 5 * (pos t).2 then (t + 1) * (t + 2) / 2 % 64 else tN t j := rfl
      have h2 : (t + 1) * (t + 2) ≤ 24 * 25 := Nat.mul_le_mul (by omega) (by omega)
      generalize (t + 1) * (t + 2) = z at h2 ez
      refine ⟨(by first | omega | decide | (unfold I64; omega)), (by first | omega | decide | (unfold I64; omega)), (by first | omega | decide | (unfold I64; omega)), (by first | omega | decide | (unfold I64; omega)), (by first | omega | decide | (unfold I64; omega)), (by first | omega | decide | (unfold I64; omega)), (by first | omega | decide | (unfold I64; omega)), (by first | omega | decide | (unfold I64; omega)), (by first | omega | decide | (unfold I64; omega)), (by first | omega | decide | (unfold I64; omega)), (by first | omega | decide | (unfold I64; omega)), (by first | omega | decide | (unfold I64; omega)), (by first | omega | decide | (unfold I64; omega)), (by first | omega | decide | (unfold I64; omega)), ?_⟩
      refine round_end (t + 1) (by omega) (ent_of [(0, 0), (1, 1)] rfl (tm_cons rfl (sm_ptr rfl) (tm_cons rfl (sm_ptr rfl) (tm_cons rfl (sm_same rfl) (tm_cons rfl (sm_same rfl) (tm_cons rfl (sm_same rfl) tm_nil))))) (hp_cons rfl rfl (sm_same rfl) (hp_cons rfl rfl (sm_arr fun i hi => ?_) hp_nil))) (by dsimp only; omega)
      show _ = i64 (tN (t + 1) i)
      rw [ez]
      dsimp only
      split <;> rfl
    · simp only [decide_eq_false_iff_not] at h
      obtain rfl : t = 24 := by omega
      refine ⟨⟨rfl, rfl, fun i hi => ⟨rfl, rfl⟩⟩, post_cell rfl rfl (sm_arr fun i hi => ?_) rfl⟩
      have : ∀ i : Fin 25, tN 24 i.1 = turnsN i.1 := by decide
      show i64 _ = i64 _
      rw [this ⟨i, hi⟩]
end Go.Bu.W

namespace Go.Bu.W
open Sp
def w_round : Way := way [0, 1, 2, 3, 4, 6, 7, 8, 9, 10, 11, 12, 13, 14, 15, 16, 17, 18, 19, 30, 31, 32, 69, 70] 104 []
abbrev aw (n : Nat) (g : Nat → Nat) : AV := .arr n 1 (fun i => u64 (g i))
abbrev zw (n : Nat) : AV := .arr n 1 (fun _ => .v (.int .u64 0))
def I_r0 (g : Nat → Nat) (k i : Nat) : St := { tm := [(2, u64 k), (3, .ptr 3 []), (4, .ptr 4 []), (6, .ptr 6 []), (7, .ptr 7 []), (17, aw 25 g), (18, i64 i)], hp := [(3, .c (aw 25 g)), (4, .c turnsAV), (6, .c (zw 25)), (7, .c (aw 5 (cN g i)))], seen := [3, 4, 6, 7] }
def I_r1 (g : Nat → Nat) (k i : Nat) : St := { tm := [(2, u64 k), (3, .ptr 3 []), (4, .ptr 4 []), (6, .ptr 6 []), (7, .ptr 7 []), (10, .ptr 10 []), (30, aw 25 g), (31, i64 i)], hp := [(3, .c (aw 25 g)), (4, .c turnsAV), (6, .c (zw 25)), (7, .c (aw 5 (cN g 25))), (10, .c (aw 25 (bN g i)))], seen := [3, 4, 6, 7, 10] }
def I_r2 (g : Nat → Nat) (k i : Nat) : St := { tm := [(2, u64 k), (3, .ptr 3 []), (6, .ptr 6 []), (10, .ptr 10 []), (69, i64 i)], hp := [(3, .c (aw 25 (fun j => if j < i then chi (bN g 25) j else g j))), (6, .c (zw 25)), (10, .c (aw 25 (bN g 25)))], seen := [3, 6, 10] }

theorem ones (b : Nat) (h : b < 2 ^ 64) : bXor IntKind.u64 18446744073709551615 (b : Int) = (((2 ^ 64 - 1) ^^^ b : Nat) : Int) := by
  have h := xor64 (a := 18446744073709551615) (by decide) h
  rw [show (2 ^ 64 - 1 : Nat) = 18446744073709551615 by decide]
  rw [← h]
  rfl

theorem round_A (g : Nat → Nat) (k : Nat) (K : Nat) (Φ : Ex → St → Prop) :
  (Holds C P 104 [] K Φ (vc C w_round b_round [] (start [aw 25 g, turnsAV, u64 k] []) lf)) =
  (LoopOK W.C W.P (104 : Nat) [] K (bodyAt b_round [1, 1, 0, 1, 0]) (St.mk [((0 : Nat), (AV.arr (25 : Nat) (1 : Nat) (fun (i : Nat) => (AV.v (Value.int IntKind.u64 (((g i) : Nat) : Int)))))), ((1 : Nat), (AV.arr (25 : Nat) (1 : Nat) (fun (i : Nat) => (AV.v (Value.int IntKind.i64 (((Sp.turnsN i) : Nat) : Int)))))), ((2 : Nat), (AV.v (Value.int IntKind.u64 ((k : Nat) : Int)))), ((3 : Nat), (AV.ptr (3 : Nat) [])), ((4 : Nat), (AV.ptr (4 : Nat) [])), ((6 : Nat), (AV.ptr (6 : Nat) [])), ((7 : Nat), (AV.ptr (7 : Nat) [])), ((17 : Nat), (AV.arr (25 : Nat) (1 : Nat) (fun (i : Nat) => (AV.v (Value.int IntKind.u64 (((g i) : Nat) : Int)))))), ((18 : Nat), (AV.v (Value.int IntKind.i64 (0 : Int))))] [((3 : Nat), (Blk.c (AV.arr (25 : Nat) (1 : Nat) (fun (i : Nat) => (AV.v (Value.int IntKind.u64 (((g i) : Nat) : Int))))))), ((4 : Nat), (Blk.c (AV.arr (25 : Nat) (1 : Nat) (fun (i : Nat) => (AV.v (Value.int IntKind.i64 (((Sp.turnsN i) : Nat) : Int))))))), ((6 : Nat), (Blk.c (AV.arr (25 : Nat) (1 : Nat) (fun (x : Nat) => (AV.v (Value.int IntKind.u64 (0 : Int))))))), ((7 : Nat), (Blk.c (AV.arr (5 : Nat) (1 : Nat) (fun (x : Nat) => (AV.v (Value.int IntKind.u64 (0 : Int)))))))] [(7 : Nat), (6 : Nat), (4 : Nat), (3 : Nat)]) (fun (e : Ex) (S' : St) => Holds W.C W.P (104 : Nat) [] K Φ (after W.C w_round b_round [1, 1, 0, 1, 0] [] lf e S'))) := by kernel_rfl
noncomputable abbrev bd_round_0 : Code := bodyAt (b_round) [1, 1, 0, 1, 0]
theorem ok_round_0 : codeOK bd_round_0 = true := by kernel_rfl
noncomputable abbrev rest_round_0 (K : Nat) (Φ : Ex → St → Prop) : Ex → St → Prop := fun e S' => Holds C P 104 [] K Φ (after C w_round (b_round) [1, 1, 0, 1, 0] [] lf e S')
theorem round_L0 (g : Nat → Nat) (k i : Nat) (K : Nat) (Φ : Ex → St → Prop) :
  (Holds C P 104 [] K (RoundQ C 104 [] K (I_r0 g k) (fun i => i ≤ 25) (fun i => 25 - i) ((fun i => 25 - i) (i)) (rest_round_0 K Φ)) (vc C w_round bd_round_0 [] ((I_r0 g k) (i)) lf)) =
  (((decide (((i : Nat) : Int) < (25 : Int))) = true → 
 ((((0 : Int) ≤ ((i : Nat) : Int)) ∧ (((i : Nat) : Int) < (25 : Int))) ∧
  (((5 : Int) ≠ (0 : Int)) ∧
  ((((0 : Int) ≤ (((i % 5) : Nat) : Int)) ∧ ((((i % 5) : Nat) : Int) < (5 : Int))) ∧
  ((((0 : Int) ≤ (((i % 5) : Nat) : Int)) ∧ ((((i % 5) : Nat) : Int) < (5 : Int))) ∧
  ((I64 (((i + 1) : Nat) : Int)) ∧
  ((RoundQ C 104 [] K (I_r0 g k) (fun i => i ≤ 25) (fun i => 25 - i) ((fun i => 25 - i) (i)) (rest_round_0 K Φ)) Ex.normal (St.mk [((2 : Nat), (AV.v (Value.int IntKind.u64 ((k : Nat) : Int)))), ((3 : Nat), (AV.ptr (3 : Nat) [])), ((4 : Nat), (AV.ptr (4 : Nat) [])), ((6 : Nat), (AV.ptr (6 : Nat) [])), ((7 : Nat), (AV.ptr (7 : Nat) [])), ((8 : Nat), (AV.v (Value.int IntKind.i64 ((i : Nat) : Int)))), ((9 : Nat), (AV.v (Value.int IntKind.u64 (((g i) : Nat) : Int)))), ((17 : Nat), (AV.arr (25 : Nat) (1 : Nat) (fun (i1 : Nat) => (AV.v (Value.int IntKind.u64 (((g i1) : Nat) : Int)))))), ((18 : Nat), (AV.v (Value.int IntKind.i64 (((i + 1) : Nat) : Int)))), ((19 : Nat), (AV.v (Value.bool true)))] [((3 : Nat), (Blk.c (AV.arr (25 : Nat) (1 : Nat) (fun (i1 : Nat) => (AV.v (Value.int IntKind.u64 (((g i1) : Nat) : Int))))))), ((4 : Nat), (Blk.c (AV.arr (25 : Nat) (1 : Nat) (fun (i1 : Nat) => (AV.v (Value.int IntKind.i64 (((Sp.turnsN i1) : Nat) : Int))))))), ((6 : Nat), (Blk.c (AV.arr (25 : Nat) (1 : Nat) (fun (x : Nat) => (AV.v (Value.int IntKind.u64 (0 : Int))))))), ((7 : Nat), (Blk.c (AV.arr (5 : Nat) (1 : Nat) (fun (j : Nat) => (if (j = (i % 5)) then (AV.v (Value.int IntKind.u64 (bXor IntKind.u64 (((Sp.cN g i (i % 5)) : Nat) : Int) (((g i) : Nat) : Int)))) else (AV.v (Value.int IntKind.u64 (((Sp.cN g i j) : Nat) : Int))))))))] [(3 : Nat), (4 : Nat), (6 : Nat), (7 : Nat)])))))))) ∧
 ((decide (((i : Nat) : Int) < (25 : Int))) = false → 
 (LoopOK W.C W.P (104 : Nat) [] K (bodyAt b_round [1, 1, 1, 1, 0, 1, 0]) (St.mk [((2 : Nat), (AV.v (Value.int IntKind.u64 ((k : Nat) : Int)))), ((3 : Nat), (AV.ptr (3 : Nat) [])), ((4 : Nat), (AV.ptr (4 : Nat) [])), ((6 : Nat), (AV.ptr (6 : Nat) [])), ((7 : Nat), (AV.ptr (7 : Nat) [])), ((10 : Nat), (AV.ptr (10 : Nat) [])), ((17 : Nat), (AV.arr (25 : Nat) (1 : Nat) (fun (i1 : Nat) => (AV.v (Value.int IntKind.u64 (((g i1) : Nat) : Int)))))), ((18 : Nat), (AV.v (Value.int IntKind.i64 ((i : Nat) : Int)))), ((19 : Nat), (AV.v (Value.bool false))), ((30 : Nat), (AV.arr (25 : Nat) (1 : Nat) (fun (i1 : Nat) => (AV.v (Value.int IntKind.u64 (((g i1) : Nat) : Int)))))), ((31 : Nat), (AV.v (Value.int IntKind.i64 (0 : Int))))] [((3 : Nat), (Blk.c (AV.arr (25 : Nat) (1 : Nat) (fun (i1 : Nat) => (AV.v (Value.int IntKind.u64 (((g i1) : Nat) : Int))))))), ((4 : Nat), (Blk.c (AV.arr (25 : Nat) (1 : Nat) (fun (i1 : Nat) => (AV.v (Value.int IntKind.i64 (((Sp.turnsN i1) : Nat) : Int))))))), ((6 : Nat), (Blk.c (AV.arr (25 : Nat) (1 : Nat) (fun (x : Nat) => (AV.v (Value.int IntKind.u64 (0 : Int))))))), ((7 : Nat), (Blk.c (AV.arr (5 : Nat) (1 : Nat) (fun (i1 : Nat) => (AV.v (Value.int IntKind.u64 (((Sp.cN g i i1) : Nat) : Int))))))), ((10 : Nat), (Blk.c (AV.arr (25 : Nat) (1 : Nat) (fun (x : Nat) => (AV.v (Value.int IntKind.u64 (0 : Int)))))))] [(10 : Nat), (3 : Nat), (4 : Nat), (6 : Nat), (7 : Nat)]) (fun (e : Ex) (S' : St) => Holds W.C W.P (104 : Nat) [] K Φ (after W.C w_round b_round [1, 1, 1, 1, 0, 1, 0] [] lf e S'))))) := by kernel_rfl
noncomputable abbrev bd_round_1 : Code := bodyAt (b_round) [1, 1, 1, 1, 0, 1, 0]
theorem ok_round_1 : codeOK bd_round_1 = true := by kernel_rfl
noncomputable abbrev rest_round_1 (K : Nat) (Φ : Ex → St → Prop) : Ex → St → Prop := fun e S' => Holds C P 104 [] K Φ (after C w_round (b_round) [1, 1, 1, 1, 0, 1, 0] [] lf e S')
theorem round_L1 (g : Nat → Nat) (k i : Nat) (K : Nat) (Φ : Ex → St → Prop) :
  (Holds C P 104 [] K (RoundQ C 104 [] K (I_r1 g k) (fun i => i ≤ 25) (fun i => 25 - i) ((fun i => 25 - i) (i)) (rest_round_1 K Φ)) (vc C w_round bd_round_1 [] ((I_r1 g k) (i)) lf)) =
  (((decide (((i : Nat) : Int) < (25 : Int))) = true → 
 ((((0 : Int) ≤ ((i : Nat) : Int)) ∧ (((i : Nat) : Int) < (25 : Int))) ∧
  (((5 : Int) ≠ (0 : Int)) ∧
  (((5 : Int) ≠ (0 : Int)) ∧
  ((I64 (((i / 5) : Nat) : Int)) ∧
  ((I64 ((((i % 5) + 4) : Nat) : Int)) ∧
  (((5 : Int) ≠ (0 : Int)) ∧
  ((((0 : Int) ≤ (((((i % 5) + 4) % 5) : Nat) : Int)) ∧ ((((((i % 5) + 4) % 5) : Nat) : Int) < (5 : Int))) ∧
  ((I64 ((((i % 5) + 1) : Nat) : Int)) ∧
  (((5 : Int) ≠ (0 : Int)) ∧
  ((((0 : Int) ≤ (((((i % 5) + 1) % 5) : Nat) : Int)) ∧ ((((((i % 5) + 1) % 5) : Nat) : Int) < (5 : Int))) ∧
  (Fun W.C W.P (50 : Nat) [(AV.v (Value.int IntKind.u64 (((Sp.cN g (25 : Nat) (((i % 5) + 1) % 5)) : Nat) : Int))), (AV.v (Value.int IntKind.i64 (1 : Int)))] [] (AV.v (Value.int IntKind.u64 (((Sp.rotl (Sp.cN g (25 : Nat) (((i % 5) + 1) % 5)) (1 : Nat)) : Nat) : Int))) [] ∧
  (True ∧
  ((I64 (((2 * (i % 5)) : Nat) : Int)) ∧
  ((I64 (((3 * (i / 5)) : Nat) : Int)) ∧
  ((I64 ((((2 * (i % 5)) + (3 * (i / 5))) : Nat) : Int)) ∧
  (((5 : Int) ≠ (0 : Int)) ∧
  ((I64 (((5 * (((2 * (i % 5)) + (3 * (i / 5))) % 5)) : Nat) : Int)) ∧
  ((I64 ((((i / 5) + (5 * (((2 * (i % 5)) + (3 * (i / 5))) % 5))) : Nat) : Int)) ∧
  ((((0 : Int) ≤ ((i : Nat) : Int)) ∧ (((i : Nat) : Int) < (25 : Int))) ∧
  (Fun W.C W.P (50 : Nat) [(AV.v (Value.int IntKind.u64 (bXor IntKind.u64 (((g i) : Nat) : Int) (bXor IntKind.u64 (((Sp.cN g (25 : Nat) (((i % 5) + 4) % 5)) : Nat) : Int) (((Sp.rotl (Sp.cN g (25 : Nat) (((i % 5) + 1) % 5)) (1 : Nat)) : Nat) : Int))))), (AV.v (Value.int IntKind.i64 (((Sp.turnsN i) : Nat) : Int)))] [] (AV.v (Value.int IntKind.u64 (((Sp.rotl (Int.toNat (bXor IntKind.u64 (((g i) : Nat) : Int) (bXor IntKind.u64 (((Sp.cN g (25 : Nat) (((i % 5) + 4) % 5)) : Nat) : Int) (((Sp.rotl (Sp.cN g (25 : Nat) (((i % 5) + 1) % 5)) (1 : Nat)) : Nat) : Int)))) ((Sp.turnsN i) % (64 : Nat))) : Nat) : Int))) [] ∧
  (True ∧
  ((((0 : Int) ≤ ((((i / 5) + (5 * (((2 * (i % 5)) + (3 * (i / 5))) % 5))) : Nat) : Int)) ∧ (((((i / 5) + (5 * (((2 * (i % 5)) + (3 * (i / 5))) % 5))) : Nat) : Int) < (25 : Int))) ∧
  ((I64 (((i + 1) : Nat) : Int)) ∧
  ((RoundQ C 104 [] K (I_r1 g k) (fun i => i ≤ 25) (fun i => 25 - i) ((fun i => 25 - i) (i)) (rest_round_1 K Φ)) Ex.normal (St.mk [((2 : Nat), (AV.v (Value.int IntKind.u64 ((k : Nat) : Int)))), ((3 : Nat), (AV.ptr (3 : Nat) [])), ((4 : Nat), (AV.ptr (4 : Nat) [])), ((6 : Nat), (AV.ptr (6 : Nat) [])), ((7 : Nat), (AV.ptr (7 : Nat) [])), ((10 : Nat), (AV.ptr (10 : Nat) [])), ((11 : Nat), (AV.v (Value.int IntKind.i64 ((i : Nat) : Int)))), ((12 : Nat), (AV.v (Value.int IntKind.u64 (bXor IntKind.u64 (((g i) : Nat) : Int) (bXor IntKind.u64 (((Sp.cN g (25 : Nat) (((i % 5) + 4) % 5)) : Nat) : Int) (((Sp.rotl (Sp.cN g (25 : Nat) (((i % 5) + 1) % 5)) (1 : Nat)) : Nat) : Int)))))), ((13 : Nat), (AV.v (Value.int IntKind.i64 (((i % 5) : Nat) : Int)))), ((14 : Nat), (AV.v (Value.int IntKind.i64 (((i / 5) : Nat) : Int)))), ((30 : Nat), (AV.arr (25 : Nat) (1 : Nat) (fun (i1 : Nat) => (AV.v (Value.int IntKind.u64 (((g i1) : Nat) : Int)))))), ((31 : Nat), (AV.v (Value.int IntKind.i64 (((i + 1) : Nat) : Int)))), ((32 : Nat), (AV.v (Value.bool true)))] [((3 : Nat), (Blk.c (AV.arr (25 : Nat) (1 : Nat) (fun (i1 : Nat) => (AV.v (Value.int IntKind.u64 (((g i1) : Nat) : Int))))))), ((4 : Nat), (Blk.c (AV.arr (25 : Nat) (1 : Nat) (fun (i1 : Nat) => (AV.v (Value.int IntKind.i64 (((Sp.turnsN i1) : Nat) : Int))))))), ((6 : Nat), (Blk.c (AV.arr (25 : Nat) (1 : Nat) (fun (x : Nat) => (AV.v (Value.int IntKind.u64 (0 : Int))))))), ((7 : Nat), (Blk.c (AV.arr (5 : Nat) (1 : Nat) (fun (i1 : Nat) => (AV.v (Value.int IntKind.u64 (((Sp.cN g (25 : Nat) i1) : Nat) : Int))))))), ((10 : Nat), (Blk.c (AV.arr (25 : Nat) (1 : Nat) (fun (j : Nat) => (if (j = ((i / 5) + (5 * (((2 * (i % 5)) + (3 * (i / 5))) % 5)))) then (AV.v (Value.int IntKind.u64 (((Sp.rotl (Int.toNat (bXor IntKind.u64 (((g i) : Nat) : Int) (bXor IntKind.u64 (((Sp.cN g (25 : Nat) (((i % 5) + 4) % 5)) : Nat) : Int) (((Sp.rotl (Sp.cN g (25 : Nat) (((i % 5) + 1) % 5)) (1 : Nat)) : Nat) : Int)))) ((Sp.turnsN i) % (64 : Nat))) : Nat) : Int))) else (AV.v (Value.int IntKind.u64 (((Sp.bN g i j) : Nat) : Int))))))))] [(3 : Nat), (4 : Nat), (6 : Nat), (7 : Nat), (10 : Nat)])))))))))))))))))))))))))) ∧
 ((decide (((i : Nat) : Int) < (25 : Int))) = false → 
 (LoopOK W.C W.P (104 : Nat) [] K (bodyAt b_round [1, 1, 1, 1, 1, 0, 1, 0]) (St.mk [((2 : Nat), (AV.v (Value.int IntKind.u64 ((k : Nat) : Int)))), ((3 : Nat), (AV.ptr (3 : Nat) [])), ((4 : Nat), (AV.ptr (4 : Nat) [])), ((6 : Nat), (AV.ptr (6 : Nat) [])), ((7 : Nat), (AV.ptr (7 : Nat) [])), ((10 : Nat), (AV.ptr (10 : Nat) [])), ((30 : Nat), (AV.arr (25 : Nat) (1 : Nat) (fun (i1 : Nat) => (AV.v (Value.int IntKind.u64 (((g i1) : Nat) : Int)))))), ((31 : Nat), (AV.v (Value.int IntKind.i64 ((i : Nat) : Int)))), ((32 : Nat), (AV.v (Value.bool false))), ((69 : Nat), (AV.v (Value.int IntKind.i64 (0 : Int))))] [((3 : Nat), (Blk.c (AV.arr (25 : Nat) (1 : Nat) (fun (i1 : Nat) => (AV.v (Value.int IntKind.u64 (((g i1) : Nat) : Int))))))), ((4 : Nat), (Blk.c (AV.arr (25 : Nat) (1 : Nat) (fun (i1 : Nat) => (AV.v (Value.int IntKind.i64 (((Sp.turnsN i1) : Nat) : Int))))))), ((6 : Nat), (Blk.c (AV.arr (25 : Nat) (1 : Nat) (fun (x : Nat) => (AV.v (Value.int IntKind.u64 (0 : Int))))))), ((7 : Nat), (Blk.c (AV.arr (5 : Nat) (1 : Nat) (fun (i1 : Nat) => (AV.v (Value.int IntKind.u64 (((Sp.cN g (25 : Nat) i1) : Nat) : Int))))))), ((10 : Nat), (Blk.c (AV.arr (25 : Nat) (1 : Nat) (fun (i1 : Nat) => (AV.v (Value.int IntKind.u64 (((Sp.bN g i i1) : Nat) : Int)))))))] [(3 : Nat), (4 : Nat), (6 : Nat), (7 : Nat), (10 : Nat)]) (fun (e : Ex) (S' : St) => Holds W.C W.P (104 : Nat) [] K Φ (after W.C w_round b_round [1, 1, 1, 1, 1, 0, 1, 0] [] lf e S'))))) := by kernel_rfl
noncomputable abbrev bd_round_2 : Code := bodyAt (b_round) [1, 1, 1, 1, 1, 0, 1, 0]
theorem ok_round_2 : codeOK bd_round_2 = true := by kernel_rfl
noncomputable abbrev rest_round_2 (K : Nat) (Φ : Ex → St → Prop) : Ex → St → Prop := fun e S' => Holds C P 104 [] K Φ (after C w_round (b_round) [1, 1, 1, 1, 1, 0, 1, 0] [] lf e S')
theorem round_L2 (g : Nat → Nat) (k i : Nat) (K : Nat) (Φ : Ex → St → Prop) :
  (Holds C P 104 [] K (RoundQ C 104 [] K (I_r2 g k) (fun i => i ≤ 25) (fun i => 25 - i) ((fun i => 25 - i) (i)) (rest_round_2 K Φ)) (vc C w_round bd_round_2 [] ((I_r2 g k) (i)) lf)) =
  (((decide (((i : Nat) : Int) < (25 : Int))) = true → 
 (((5 : Int) ≠ (0 : Int)) ∧
  ((I64 (((i / 5) : Nat) : Int)) ∧
  ((I64 ((((i / 5) * 5) : Nat) : Int)) ∧
  ((((0 : Int) ≤ ((i : Nat) : Int)) ∧ (((i : Nat) : Int) < (25 : Int))) ∧
  ((I64 (((i + 1) : Nat) : Int)) ∧
  (((5 : Int) ≠ (0 : Int)) ∧
  ((I64 (((((i / 5) * 5) + ((i + 1) % 5)) : Nat) : Int)) ∧
  ((((0 : Int) ≤ (((((i / 5) * 5) + ((i + 1) % 5)) : Nat) : Int)) ∧ ((((((i / 5) * 5) + ((i + 1) % 5)) : Nat) : Int) < (25 : Int))) ∧
  ((I64 (((i + 2) : Nat) : Int)) ∧
  (((5 : Int) ≠ (0 : Int)) ∧
  ((I64 (((((i / 5) * 5) + ((i + 2) % 5)) : Nat) : Int)) ∧
  ((((0 : Int) ≤ (((((i / 5) * 5) + ((i + 2) % 5)) : Nat) : Int)) ∧ ((((((i / 5) * 5) + ((i + 2) % 5)) : Nat) : Int) < (25 : Int))) ∧
  ((((0 : Int) ≤ ((i : Nat) : Int)) ∧ (((i : Nat) : Int) < (25 : Int))) ∧
  ((I64 (((i + 1) : Nat) : Int)) ∧
  ((RoundQ C 104 [] K (I_r2 g k) (fun i => i ≤ 25) (fun i => 25 - i) ((fun i => 25 - i) (i)) (rest_round_2 K Φ)) Ex.normal (St.mk [((2 : Nat), (AV.v (Value.int IntKind.u64 ((k : Nat) : Int)))), ((3 : Nat), (AV.ptr (3 : Nat) [])), ((6 : Nat), (AV.ptr (6 : Nat) [])), ((10 : Nat), (AV.ptr (10 : Nat) [])), ((15 : Nat), (AV.v (Value.int IntKind.i64 ((i : Nat) : Int)))), ((16 : Nat), (AV.v (Value.int IntKind.i64 ((((i / 5) * 5) : Nat) : Int)))), ((69 : Nat), (AV.v (Value.int IntKind.i64 (((i + 1) : Nat) : Int)))), ((70 : Nat), (AV.v (Value.bool true)))] [((3 : Nat), (Blk.c (AV.arr (25 : Nat) (1 : Nat) (fun (j : Nat) => (if (j = i) then (AV.v (Value.int IntKind.u64 (bXor IntKind.u64 (((Sp.bN g (25 : Nat) i) : Nat) : Int) (bAnd IntKind.u64 (bXor IntKind.u64 (18446744073709551615 : Int) (((Sp.bN g (25 : Nat) (((i / 5) * 5) + ((i + 1) % 5))) : Nat) : Int)) (((Sp.bN g (25 : Nat) (((i / 5) * 5) + ((i + 2) % 5))) : Nat) : Int))))) else (AV.v (Value.int IntKind.u64 (((if (j < i) then (Sp.chi (Sp.bN g (25 : Nat)) j) else (g j)) : Nat) : Int)))))))), ((6 : Nat), (Blk.c (AV.arr (25 : Nat) (1 : Nat) (fun (x : Nat) => (AV.v (Value.int IntKind.u64 (0 : Int))))))), ((10 : Nat), (Blk.c (AV.arr (25 : Nat) (1 : Nat) (fun (i1 : Nat) => (AV.v (Value.int IntKind.u64 (((Sp.bN g (25 : Nat) i1) : Nat) : Int)))))))] [(3 : Nat), (6 : Nat), (10 : Nat)]))))))))))))))))) ∧
 ((decide (((i : Nat) : Int) < (25 : Int))) = false → 
 ((((0 : Int) ≤ (0 : Int)) ∧ ((0 : Int) < (25 : Int))) ∧
  ((((0 : Int) ≤ (0 : Int)) ∧ ((0 : Int) < (25 : Int))) ∧
  ((((25 : Nat) = (25 : Nat)) ∧ (((1 : Nat) = (1 : Nat)) ∧ (∀ (i1 : Nat), ((i1 < (25 : Nat)) → (shp (AV.v (Value.int IntKind.u64 (0 : Int))) (if (i1 = (0 : Nat)) then (AV.v (Value.int IntKind.u64 (bXor IntKind.u64 (((if ((0 : Nat) < i) then (Sp.chi (Sp.bN g (25 : Nat)) (0 : Nat)) else (g (0 : Nat))) : Nat) : Int) ((k : Nat) : Int)))) else (AV.v (Value.int IntKind.u64 (((if (i1 < i) then (Sp.chi (Sp.bN g (25 : Nat)) i1) else (g i1)) : Nat) : Int))))))))) ∧
  (Φ Ex.ret (St.mk [((2 : Nat), (AV.v (Value.int IntKind.u64 ((k : Nat) : Int)))), ((3 : Nat), (AV.ptr (3 : Nat) [])), ((6 : Nat), (AV.ptr (6 : Nat) [])), ((10 : Nat), (AV.ptr (10 : Nat) [])), ((69 : Nat), (AV.v (Value.int IntKind.i64 ((i : Nat) : Int)))), ((70 : Nat), (AV.v (Value.bool false)))] [((3 : Nat), (Blk.c (AV.arr (25 : Nat) (1 : Nat) (fun (j : Nat) => (if (j = (0 : Nat)) then (AV.v (Value.int IntKind.u64 (bXor IntKind.u64 (((if ((0 : Nat) < i) then (Sp.chi (Sp.bN g (25 : Nat)) (0 : Nat)) else (g (0 : Nat))) : Nat) : Int) ((k : Nat) : Int)))) else (AV.v (Value.int IntKind.u64 (((if (j < i) then (Sp.chi (Sp.bN g (25 : Nat)) j) else (g j)) : Nat) : Int)))))))), ((6 : Nat), (Blk.c (AV.arr (25 : Nat) (1 : Nat) (fun (j : Nat) => (if (j = (0 : Nat)) then (AV.v (Value.int IntKind.u64 (bXor IntKind.u64 (((if ((0 : Nat) < i) then (Sp.chi (Sp.bN g (25 : Nat)) (0 : Nat)) else (g (0 : Nat))) : Nat) : Int) ((k : Nat) : Int)))) else (AV.v (Value.int IntKind.u64 (((if (j < i) then (Sp.chi (Sp.bN g (25 : Nat)) j) else (g j)) : Nat) : Int)))))))), ((10 : Nat), (Blk.c (AV.arr (25 : Nat) (1 : Nat) (fun (i1 : Nat) => (AV.v (Value.int IntKind.u64 (((Sp.bN g (25 : Nat) i1) : Nat) : Int)))))))] [(3 : Nat), (6 : Nat), (10 : Nat)]))))))) := by kernel_rfl

theorem round_fun (g : Nat → Nat) (k : Nat) (hg : ∀ i, i < 25 → g i < 2 ^ 64) (hk : k < 2 ^ 64) : Fun C P F_round [aw 25 g, turnsAV, u64 k] [] (aw 25 (roundN g k)) [] := by
  have hc : ∀ i, i ≤ 25 → ∀ j, cN g i j < 2 ^ 64 := cN_lt hg
  have hb : ∀ j, bN g 25 j < 2 ^ 64 := bN_lt hg 25 (Nat.le_refl _)
  refine in_round (W := w_round) rfl 0 (by simp) rfl (fun id h => absurd rfl h) ?_
  refine of_eq (round_A g k 0 _) ?_
  refine loop_inv (W := w_round) ctx mixed ok_round_0 (I_r0 g k) (fun i => i ≤ 25) (fun i => 25 - i) 0 (by decide) ?_ fun i hi => ?_
  · exact ent_of [(3, 3), (4, 4), (6, 6), (7, 7)] rfl (tm_cons rfl (sm_same rfl) (tm_cons rfl (sm_ptr rfl) (tm_cons rfl (sm_ptr rfl) (tm_cons rfl (sm_ptr rfl) (tm_cons rfl (sm_ptr rfl) (tm_cons rfl (sm_same rfl) (tm_cons rfl (sm_same rfl) tm_nil)))))))
      (hp_cons rfl rfl (sm_same rfl) (hp_cons rfl rfl (sm_same rfl) (hp_cons rfl rfl (sm_same rfl) (hp_cons rfl rfl (sm_arr fun i hi => rfl) hp_nil))))
  refine of_eq (round_L0 g k i 0 _) ?_
  refine ⟨fun h => ?_, fun h => ?_⟩
  · simp only [decide_eq_true_eq] at h
    refine ⟨(by first | omega | decide | (unfold I64; omega)), (by first | omega | decide | (unfold I64; omega)), (by first | omega | decide | (unfold I64; omega)), (by first | omega | decide | (unfold I64; omega)), (by first | omega | decide | (unfold I64; omega)), round_end (i + 1) (by omega) (ent_of [(3, 3), (4, 4), (6, 6), (7, 7)] rfl
      (tm_cons rfl (sm_same rfl) (tm_cons rfl (sm_ptr rfl) (tm_cons rfl (sm_ptr rfl) (tm_cons rfl (sm_ptr rfl) (tm_cons rfl (sm_ptr rfl) (tm_cons rfl (sm_same rfl) (tm_cons rfl (sm_same rfl) tm_nil)))))))
      (hp_cons rfl rfl (sm_same rfl) (hp_cons rfl rfl (sm_same rfl) (hp_cons rfl rfl (sm_same rfl) (hp_cons rfl rfl (sm_arr fun j hj => ?_) hp_nil))))) (by dsimp only; omega)⟩
    rw [xor64 (hc i hi _) (hg i (by omega))]
    show _ = u64 (if j = i % 5 then cN g i j ^^^ g i else cN g i j)
    split
    · rename_i e; rw [e]
    · rfl
  simp only [decide_eq_false_iff_not] at h
  obtain rfl : i = 25 := by omega
  refine loop_inv (W := w_round) ctx mixed ok_round_1 (I_r1 g k) (fun i => i ≤ 25) (fun i => 25 - i) 0 (by decide) ?_ fun i hi => ?_
  · exact ent_of [(3, 3), (4, 4), (6, 6), (7, 7), (10, 10)] rfl (tm_cons rfl (sm_same rfl) (tm_cons rfl (sm_ptr rfl) (tm_cons rfl (sm_ptr rfl) (tm_cons rfl (sm_ptr rfl) (tm_cons rfl (sm_ptr rfl) (tm_cons rfl (sm_ptr rfl) (tm_cons rfl (sm_same rfl) (tm_cons rfl (sm_same rfl) tm_nil))))))))
      (hp_cons rfl rfl (sm_same rfl) (hp_cons rfl rfl (sm_same rfl) (hp_cons rfl rfl (sm_same rfl) (hp_cons rfl rfl (sm_same rfl) (hp_cons rfl rfl (sm_arr fun i hi => rfl) hp_nil)))))
  clear h
  refine of_eq (round_L1 g k i 0 _) ?_
  refine ⟨fun h => ?_, fun h => ?_⟩
  · simp only [decide_eq_true_eq] at h
    have ht := theta_lt hg (i := i) (by omega)
    rw [xor64 (hc 25 (Nat.le_refl _) _) (rotl_lt (hc 25 (Nat.le_refl _) _)), xor64 (hg i (by omega)) (Nat.xor_lt_two_pow (hc 25 (Nat.le_refl _) _) (rotl_lt (hc 25 (Nat.le_refl _) _)))]
    refine ⟨(by first | omega | decide | (unfold I64; omega)), (by first | omega | decide | (unfold I64; omega)), (by first | omega | decide | (unfold I64; omega)), (by first | omega | decide | (unfold I64; omega)), (by first | omega | decide | (unfold I64; omega)), (by first | omega | decide | (unfold I64; omega)), (by first | omega | decide | (unfold I64; omega)), (by first | omega | decide | (unfold I64; omega)), (by first | omega | decide | (unfold I64; omega)), (by first | omega | decide | (unfold I64; omega)), rotl_fun _ 1 (hc 25 (Nat.le_refl _) _), trivial, (by first | omega | decide | (unfold I64; omega)), (by first | omega | decide | (unfold I64; omega)), (by first | omega | decide | (unfold I64; omega)), (by first | omega | decide | (unfold I64; omega)), (by first | omega | decide | (unfold I64; omega)), (by first | omega | decide | (unfold I64; omega)), (by first | omega | decide | (unfold I64; omega)), rotl_fun _ _ ht, trivial, (by first | omega | decide | (unfold I64; omega)), (by first | omega | decide | (unfold I64; omega)), round_end (i + 1) (by omega) (ent_of [(3, 3), (4, 4), (6, 6), (7, 7), (10, 10)] rfl
      (tm_cons rfl (sm_same rfl) (tm_cons rfl (sm_ptr rfl) (tm_cons rfl (sm_ptr rfl) (tm_cons rfl (sm_ptr rfl) (tm_cons rfl (sm_ptr rfl) (tm_cons rfl (sm_ptr rfl) (tm_cons rfl (sm_same rfl) (tm_cons rfl (sm_same rfl) tm_nil))))))))
      (hp_cons rfl rfl (sm_same rfl) (hp_cons rfl rfl (sm_same rfl) (hp_cons rfl rfl (sm_same rfl) (hp_cons rfl rfl (sm_same rfl) (hp_cons rfl rfl (sm_arr fun j hj => ?_) hp_nil)))))) (by dsimp only; omega)⟩
    show _ = u64 (if j = piN i then rotl (theta g i) (turnsN i) else bN g i j)
    rw [Nat.mod_eq_of_lt (turnsN_lt i)]
    unfold piN
    split <;> rfl
  simp only [decide_eq_false_iff_not] at h
  obtain rfl : i = 25 := by omega
  refine loop_inv (W := w_round) ctx mixed ok_round_2 (I_r2 g k) (fun i => i ≤ 25) (fun i => 25 - i) 0 (by decide) ?_ fun i hi => ?_
  · exact ent_of [(3, 3), (6, 6), (10, 10)] rfl (tm_cons rfl (sm_same rfl) (tm_cons rfl (sm_ptr rfl) (tm_cons rfl (sm_ptr rfl) (tm_cons rfl (sm_ptr rfl) (tm_cons rfl (sm_same rfl) tm_nil)))))
      (hp_cons rfl rfl (sm_arr fun i hi => by simp) (hp_cons rfl rfl (sm_same rfl) (hp_cons rfl rfl (sm_same rfl) hp_nil)))
  clear h
  refine of_eq (round_L2 g k i 0 _) ?_
  refine ⟨fun h => ?_, fun h => ?_⟩
  · simp only [decide_eq_true_eq] at h
    rw [ones _ (hb _), and64 (Nat.xor_lt_two_pow (by decide) (hb _)) (hb _), xor64 (hb _) (Nat.and_lt_two_pow _ (hb _))]
    refine ⟨(by first | omega | decide | (unfold I64; omega)), (by first | omega | decide | (unfold I64; omega)), (by first | omega | decide | (unfold I64; omega)), (by first | omega | decide | (unfold I64; omega)), (by first | omega | decide | (unfold I64; omega)), (by first | omega | decide | (unfold I64; omega)), (by first | omega | decide | (unfold I64; omega)), (by first | omega | decide | (unfold I64; omega)), (by first | omega | decide | (unfold I64; omega)), (by first | omega | decide | (unfold I64; omega)), (by first | omega | decide | (unfold I64; omega)), (by first | omega | decide | (unfold I64; omega)), (by first | omega | decide | (unfold I64; omega)), (by first | omega | decide | (unfold I64; omega)), round_end (i + 1) (by omega) (ent_of [(3, 3), (6, 6), (10, 10)] rfl
      (tm_cons rfl (sm_same rfl) (tm_cons rfl (sm_ptr rfl) (tm_cons rfl (sm_ptr rfl) (tm_cons rfl (sm_ptr rfl) (tm_cons rfl (sm_same rfl) tm_nil)))))
      (hp_cons rfl rfl (sm_arr fun j hj => ?_) (hp_cons rfl rfl (sm_same rfl) (hp_cons rfl rfl (sm_same rfl) hp_nil)))) (by dsimp only; omega)⟩
    show _ = u64 (if j < i + 1 then chi (bN g 25) j else g j)
    by_cases e : j = i
    · subst e; rw [if_pos rfl, if_pos (by omega)]; rfl
    · rw [if_neg e]
      by_cases e2 : j < i
      · rw [if_pos e2, if_pos (by omega)]
      · rw [if_neg e2, if_neg (by omega)]
  simp only [decide_eq_false_iff_not] at h
  obtain rfl : i = 25 := by omega
  rw [if_pos (by decide), xor64 (chi_lt hb 0) hk]
  refine ⟨(by first | omega | decide | (unfold I64; omega)), (by first | omega | decide | (unfold I64; omega)), ⟨rfl, rfl, fun i hi => ⟨rfl, ?_⟩⟩, post_cell rfl rfl (sm_arr fun j hj => ?_) rfl⟩
  · by_cases e : i = 0 <;> simp [e, leaf]
  · show _ = u64 (roundN g k j)
    unfold roundN
    by_cases e : j = 0
    · rw [if_pos e, if_pos e]
    · rw [if_neg e, if_neg e, if_pos hj]
end Go.Bu.W

namespace Go.Bu.W
open Sp
def w_mix : Way := way [0, 1, 2, 4, 5, 7, 8, 9, 10, 11, 28, 29, 30] 37 []
def I_md0 (ex : Bool) (g f : Nat → Nat) (n i : Nat) : St := { tm := [(1, .ptr 0 []), (2, .ptr 1 []), (8, db n ex f), (9, i64 n), (10, i64 i)], hp := [(0, .c (aw 25 (absN g f i))), (1, .c turnsAV)], seen := [0, 1] }
def I_md1 (g f : Nat → Nat) (n i : Nat) : St := { tm := [(1, .ptr 0 []), (2, .ptr 1 []), (28, wordsAV), (29, i64 i)], hp := [(0, .c (aw 25 (permN (absN g f n) i))), (1, .c turnsAV)], seen := [0, 1] }
def I_ms0 (g f : Nat → Nat) (n i : Nat) : St := { tm := [(1, .ptr 1 []), (2, .ptr 2 []), (8, .sl 0 [] 0 n n true 1), (9, i64 n), (10, i64 i)], hp := [(0, .c (ab n f)), (1, .c (aw 25 (absN g f i))), (2, .c turnsAV)], seen := [0, 1, 2] }
def I_ms1 (g f : Nat → Nat) (n i : Nat) : St := { tm := [(1, .ptr 1 []), (2, .ptr 2 []), (28, wordsAV), (29, i64 i)], hp := [(0, .c (ab n f)), (1, .c (aw 25 (permN (absN g f n) i))), (2, .c turnsAV)], seen := [0, 1, 2] }

theorem mix_A (ex : Bool) (g f : Nat → Nat) (n : Nat) (K : Nat) (Φ : Ex → St → Prop) :
  (Holds C P 37 [] K Φ (vc C w_mix b_mix [] (start [db n ex f, .ptr 0 [], .ptr 1 []] [(0, .c (aw 25 g)), (1, .c turnsAV)]) lf)) =
  (LoopOK W.C W.P (37 : Nat) [] K (bodyAt b_mix [0, 1, 0]) (St.mk [((0 : Nat), (AV.dat n ex (1 : Nat) (fun (i : Nat) => (AV.v (Value.int IntKind.u8 (((f i) : Nat) : Int)))))), ((1 : Nat), (AV.ptr (0 : Nat) [])), ((2 : Nat), (AV.ptr (1 : Nat) [])), ((8 : Nat), (AV.dat n ex (1 : Nat) (fun (i : Nat) => (AV.v (Value.int IntKind.u8 (((f i) : Nat) : Int)))))), ((9 : Nat), (AV.v (Value.int IntKind.i64 ((n : Nat) : Int)))), ((10 : Nat), (AV.v (Value.int IntKind.i64 (0 : Int))))] [((0 : Nat), (Blk.c (AV.arr (25 : Nat) (1 : Nat) (fun (i : Nat) => (AV.v (Value.int IntKind.u64 (((g i) : Nat) : Int))))))), ((1 : Nat), (Blk.c (AV.arr (25 : Nat) (1 : Nat) (fun (i : Nat) => (AV.v (Value.int IntKind.i64 (((Sp.turnsN i) : Nat) : Int)))))))] [(0 : Nat), (1 : Nat)]) (fun (e : Ex) (S' : St) => Holds W.C W.P (37 : Nat) [] K Φ (after W.C w_mix b_mix [0, 1, 0] [] lf e S'))) := by kernel_rfl
noncomputable abbrev bd_mix_0 : Code := bodyAt (b_mix) [0, 1, 0]
theorem ok_mix_0 : codeOK bd_mix_0 = true := by kernel_rfl
noncomputable abbrev rest_mix_0 (K : Nat) (Φ : Ex → St → Prop) : Ex → St → Prop := fun e S' => Holds C P 37 [] K Φ (after C w_mix (b_mix) [0, 1, 0] [] lf e S')
theorem mix_L0 (ex : Bool) (g f : Nat → Nat) (n i : Nat) (K : Nat) (Φ : Ex → St → Prop) :
  (Holds C P 37 [] K (RoundQ C 37 [] K (I_md0 ex g f n) (fun i => i ≤ n) (fun i => n - i) ((fun i => n - i) (i)) (rest_mix_0 K Φ)) (vc C w_mix bd_mix_0 [] ((I_md0 ex g f n) (i)) lf)) =
  (((decide (((i : Nat) : Int) < ((n : Nat) : Int))) = true → 
 ((((0 : Int) ≤ ((i : Nat) : Int)) ∧ (((i : Nat) : Int) < ((n : Nat) : Int))) ∧
  (((8 : Int) ≠ (0 : Int)) ∧
  ((I64 (((i / 8) : Nat) : Int)) ∧
  ((((0 : Int) ≤ (((i / 8) : Nat) : Int)) ∧ ((((i / 8) : Nat) : Int) < (25 : Int))) ∧
  (((8 : Int) ≠ (0 : Int)) ∧
  ((I64 (((8 * (i % 8)) : Nat) : Int)) ∧
  (((0 : Int) ≤ (((8 * (i % 8)) : Nat) : Int)) ∧
  ((((0 : Int) ≤ (((i / 8) : Nat) : Int)) ∧ ((((i / 8) : Nat) : Int) < (25 : Int))) ∧
  ((I64 (((i + 1) : Nat) : Int)) ∧
  ((RoundQ C 37 [] K (I_md0 ex g f n) (fun i => i ≤ n) (fun i => n - i) ((fun i => n - i) (i)) (rest_mix_0 K Φ)) Ex.normal (St.mk [((1 : Nat), (AV.ptr (0 : Nat) [])), ((2 : Nat), (AV.ptr (1 : Nat) [])), ((4 : Nat), (AV.v (Value.int IntKind.i64 ((i : Nat) : Int)))), ((5 : Nat), (AV.v (Value.int IntKind.u8 (((f i) : Nat) : Int)))), ((8 : Nat), (AV.dat n ex (1 : Nat) (fun (i1 : Nat) => (AV.v (Value.int IntKind.u8 (((f i1) : Nat) : Int)))))), ((9 : Nat), (AV.v (Value.int IntKind.i64 ((n : Nat) : Int)))), ((10 : Nat), (AV.v (Value.int IntKind.i64 (((i + 1) : Nat) : Int)))), ((11 : Nat), (AV.v (Value.bool true)))] [((0 : Nat), (Blk.c (AV.arr (25 : Nat) (1 : Nat) (fun (j : Nat) => (if (j = (i / 8)) then (AV.v (Value.int IntKind.u64 (bXor IntKind.u64 (((Sp.absN g f i (i / 8)) : Nat) : Int) (bShl IntKind.u64 (IntKind.wrap IntKind.u64 (((f i) : Nat) : Int)) (((8 * (i % 8)) : Nat) : Int))))) else (AV.v (Value.int IntKind.u64 (((Sp.absN g f i j) : Nat) : Int)))))))), ((1 : Nat), (Blk.c (AV.arr (25 : Nat) (1 : Nat) (fun (i1 : Nat) => (AV.v (Value.int IntKind.i64 (((Sp.turnsN i1) : Nat) : Int)))))))] [(0 : Nat), (1 : Nat)])))))))))))) ∧
 ((decide (((i : Nat) : Int) < ((n : Nat) : Int))) = false → 
 (LoopOK W.C W.P (37 : Nat) [] K (bodyAt b_mix [1, 1, 0]) (St.mk [((1 : Nat), (AV.ptr (0 : Nat) [])), ((2 : Nat), (AV.ptr (1 : Nat) [])), ((8 : Nat), (AV.dat n ex (1 : Nat) (fun (i1 : Nat) => (AV.v (Value.int IntKind.u8 (((f i1) : Nat) : Int)))))), ((9 : Nat), (AV.v (Value.int IntKind.i64 ((n : Nat) : Int)))), ((10 : Nat), (AV.v (Value.int IntKind.i64 ((i : Nat) : Int)))), ((11 : Nat), (AV.v (Value.bool false))), ((28 : Nat), (AV.arr (24 : Nat) (1 : Nat) (fun (i1 : Nat) => (AV.v (Value.int IntKind.u64 (((Sp.wordsN i1) : Nat) : Int)))))), ((29 : Nat), (AV.v (Value.int IntKind.i64 (0 : Int))))] [((0 : Nat), (Blk.c (AV.arr (25 : Nat) (1 : Nat) (fun (i1 : Nat) => (AV.v (Value.int IntKind.u64 (((Sp.absN g f i i1) : Nat) : Int))))))), ((1 : Nat), (Blk.c (AV.arr (25 : Nat) (1 : Nat) (fun (i1 : Nat) => (AV.v (Value.int IntKind.i64 (((Sp.turnsN i1) : Nat) : Int)))))))] [(0 : Nat), (1 : Nat)]) (fun (e : Ex) (S' : St) => Holds W.C W.P (37 : Nat) [] K Φ (after W.C w_mix b_mix [1, 1, 0] [] lf e S'))))) := by kernel_rfl
noncomputable abbrev bd_mix_1 : Code := bodyAt (b_mix) [1, 1, 0]
theorem ok_mix_1 : codeOK bd_mix_1 = true := by kernel_rfl
noncomputable abbrev rest_mix_1 (K : Nat) (Φ : Ex → St → Prop) : Ex → St → Prop := fun e S' => Holds C P 37 [] K Φ (after C w_mix (b_mix) [1, 1, 0] [] lf e S')
theorem mix_L1 (g f : Nat → Nat) (n i : Nat) (K : Nat) (Φ : Ex → St → Prop) :
  (Holds C P 37 [] K (RoundQ C 37 [] K (I_md1 g f n) (fun i => i ≤ 24) (fun i => 24 - i) ((fun i => 24 - i) (i)) (rest_mix_1 K Φ)) (vc C w_mix bd_mix_1 [] ((I_md1 g f n) (i)) lf)) =
  (((decide (((i : Nat) : Int) < (24 : Int))) = true → 
 ((((0 : Int) ≤ ((i : Nat) : Int)) ∧ (((i : Nat) : Int) < (24 : Int))) ∧
  (Fun W.C W.P (48 : Nat) [(AV.arr (25 : Nat) (1 : Nat) (fun (i1 : Nat) => (AV.v (Value.int IntKind.u64 (((Sp.permN (Sp.absN g f n) i i1) : Nat) : Int))))), (AV.arr (25 : Nat) (1 : Nat) (fun (i1 : Nat) => (AV.v (Value.int IntKind.i64 (((Sp.turnsN i1) : Nat) : Int))))), (AV.v (Value.int IntKind.u64 (((Sp.wordsN i) : Nat) : Int)))] [] (AV.arr (25 : Nat) (1 : Nat) (fun (i1 : Nat) => (AV.v (Value.int IntKind.u64 (((Sp.roundN (dN (fun (i2 : Nat) => (AV.v (Value.int IntKind.u64 (((Sp.permN (Sp.absN g f n) i i2) : Nat) : Int))))) (Sp.wordsN i) i1) : Nat) : Int))))) [] ∧
  ((∀ (i1 : Nat), ((i1 < (25 : Nat)) → True)) ∧
  ((((25 : Nat) = (25 : Nat)) ∧ (((1 : Nat) = (1 : Nat)) ∧ (∀ (i1 : Nat), ((i1 < (25 : Nat)) → ((Bool.true = true) ∧ (Bool.true = true)))))) ∧
  ((I64 (((i + 1) : Nat) : Int)) ∧
  ((RoundQ C 37 [] K (I_md1 g f n) (fun i => i ≤ 24) (fun i => 24 - i) ((fun i => 24 - i) (i)) (rest_mix_1 K Φ)) Ex.normal (St.mk [((1 : Nat), (AV.ptr (0 : Nat) [])), ((2 : Nat), (AV.ptr (1 : Nat) [])), ((7 : Nat), (AV.v (Value.int IntKind.u64 (((Sp.wordsN i) : Nat) : Int)))), ((28 : Nat), (AV.arr (24 : Nat) (1 : Nat) (fun (i1 : Nat) => (AV.v (Value.int IntKind.u64 (((Sp.wordsN i1) : Nat) : Int)))))), ((29 : Nat), (AV.v (Value.int IntKind.i64 (((i + 1) : Nat) : Int)))), ((30 : Nat), (AV.v (Value.bool true)))] [((0 : Nat), (Blk.c (AV.arr (25 : Nat) (1 : Nat) (fun (i1 : Nat) => (AV.v (Value.int IntKind.u64 (((Sp.roundN (dN (fun (i2 : Nat) => (AV.v (Value.int IntKind.u64 (((Sp.permN (Sp.absN g f n) i i2) : Nat) : Int))))) (Sp.wordsN i) i1) : Nat) : Int))))))), ((1 : Nat), (Blk.c (AV.arr (25 : Nat) (1 : Nat) (fun (i1 : Nat) => (AV.v (Value.int IntKind.i64 (((Sp.turnsN i1) : Nat) : Int)))))))] [(0 : Nat), (1 : Nat)])))))))) ∧
 ((decide (((i : Nat) : Int) < (24 : Int))) = false → 
 (Φ Ex.normal (St.mk [((1 : Nat), (AV.ptr (0 : Nat) [])), ((2 : Nat), (AV.ptr (1 : Nat) [])), ((28 : Nat), (AV.arr (24 : Nat) (1 : Nat) (fun (i1 : Nat) => (AV.v (Value.int IntKind.u64 (((Sp.wordsN i1) : Nat) : Int)))))), ((29 : Nat), (AV.v (Value.int IntKind.i64 ((i : Nat) : Int)))), ((30 : Nat), (AV.v (Value.bool false)))] [((0 : Nat), (Blk.c (AV.arr (25 : Nat) (1 : Nat) (fun (i1 : Nat) => (AV.v (Value.int IntKind.u64 (((Sp.permN (Sp.absN g f n) i i1) : Nat) : Int))))))), ((1 : Nat), (Blk.c (AV.arr (25 : Nat) (1 : Nat) (fun (i1 : Nat) => (AV.v (Value.int IntKind.i64 (((Sp.turnsN i1) : Nat) : Int)))))))] [(0 : Nat), (1 : Nat)])))) := by kernel_rfl
theorem mixs_A (g f : Nat → Nat) (n K : Nat) (Φ : Ex → St → Prop) :
  (Holds C P 37 [] K Φ (vc C w_mix b_mix [] (start [.sl 0 [] 0 n n true 1, .ptr 1 [], .ptr 2 []] [(0, .c (ab n f)), (1, .c (aw 25 g)), (2, .c turnsAV)]) lf)) =
  (LoopOK W.C W.P (37 : Nat) [] K (bodyAt b_mix [0, 1, 0]) (St.mk [((0 : Nat), (AV.sl (0 : Nat) [] (0 : Nat) n n true (1 : Nat))), ((1 : Nat), (AV.ptr (1 : Nat) [])), ((2 : Nat), (AV.ptr (2 : Nat) [])), ((8 : Nat), (AV.sl (0 : Nat) [] (0 : Nat) n n true (1 : Nat))), ((9 : Nat), (AV.v (Value.int IntKind.i64 ((n : Nat) : Int)))), ((10 : Nat), (AV.v (Value.int IntKind.i64 (0 : Int))))] [((0 : Nat), (Blk.c (AV.arr n (1 : Nat) (fun (i : Nat) => (AV.v (Value.int IntKind.u8 (((f i) : Nat) : Int))))))), ((1 : Nat), (Blk.c (AV.arr (25 : Nat) (1 : Nat) (fun (i : Nat) => (AV.v (Value.int IntKind.u64 (((g i) : Nat) : Int))))))), ((2 : Nat), (Blk.c (AV.arr (25 : Nat) (1 : Nat) (fun (i : Nat) => (AV.v (Value.int IntKind.i64 (((Sp.turnsN i) : Nat) : Int)))))))] [(0 : Nat), (1 : Nat), (2 : Nat)]) (fun (e : Ex) (S' : St) => Holds W.C W.P (37 : Nat) [] K Φ (after W.C w_mix b_mix [0, 1, 0] [] lf e S'))) := by kernel_rfl
theorem mixs_L0 (g f : Nat → Nat) (n i : Nat) (K : Nat) (Φ : Ex → St → Prop) :
  (Holds C P 37 [] K (RoundQ C 37 [] K (I_ms0 g f n) (fun i => i ≤ n) (fun i => n - i) ((fun i => n - i) i) (rest_mix_0 K Φ)) (vc C w_mix bd_mix_0 [] (I_ms0 g f n i) lf)) =
  (((decide (((i : Nat) : Int) < ((n : Nat) : Int))) = true → 
 ((((0 : Int) ≤ ((i : Nat) : Int)) ∧ (((i : Nat) : Int) < ((n : Nat) : Int))) ∧
  (((8 : Int) ≠ (0 : Int)) ∧
  ((I64 (((i / 8) : Nat) : Int)) ∧
  ((((0 : Int) ≤ (((i / 8) : Nat) : Int)) ∧ ((((i / 8) : Nat) : Int) < (25 : Int))) ∧
  (((8 : Int) ≠ (0 : Int)) ∧
  ((I64 (((8 * (i % 8)) : Nat) : Int)) ∧
  (((0 : Int) ≤ (((8 * (i % 8)) : Nat) : Int)) ∧
  ((((0 : Int) ≤ (((i / 8) : Nat) : Int)) ∧ ((((i / 8) : Nat) : Int) < (25 : Int))) ∧
  ((I64 (((i + 1) : Nat) : Int)) ∧
  ((RoundQ C 37 [] K (I_ms0 g f n) (fun i => i ≤ n) (fun i => n - i) ((fun i => n - i) i) (rest_mix_0 K Φ)) Ex.normal (St.mk [((1 : Nat), (AV.ptr (1 : Nat) [])), ((2 : Nat), (AV.ptr (2 : Nat) [])), ((4 : Nat), (AV.v (Value.int IntKind.i64 ((i : Nat) : Int)))), ((5 : Nat), (AV.v (Value.int IntKind.u8 (((f ((0 : Nat) + i)) : Nat) : Int)))), ((8 : Nat), (AV.sl (0 : Nat) [] (0 : Nat) n n true (1 : Nat))), ((9 : Nat), (AV.v (Value.int IntKind.i64 ((n : Nat) : Int)))), ((10 : Nat), (AV.v (Value.int IntKind.i64 (((i + 1) : Nat) : Int)))), ((11 : Nat), (AV.v (Value.bool true)))] [((0 : Nat), (Blk.c (AV.arr n (1 : Nat) (fun (i1 : Nat) => (AV.v (Value.int IntKind.u8 (((f i1) : Nat) : Int))))))), ((1 : Nat), (Blk.c (AV.arr (25 : Nat) (1 : Nat) (fun (j : Nat) => (if (j = (i / 8)) then (AV.v (Value.int IntKind.u64 (bXor IntKind.u64 (((Sp.absN g f i (i / 8)) : Nat) : Int) (bShl IntKind.u64 (IntKind.wrap IntKind.u64 (((f ((0 : Nat) + i)) : Nat) : Int)) (((8 * (i % 8)) : Nat) : Int))))) else (AV.v (Value.int IntKind.u64 (((Sp.absN g f i j) : Nat) : Int)))))))), ((2 : Nat), (Blk.c (AV.arr (25 : Nat) (1 : Nat) (fun (i1 : Nat) => (AV.v (Value.int IntKind.i64 (((Sp.turnsN i1) : Nat) : Int)))))))] [(0 : Nat), (1 : Nat), (2 : Nat)])))))))))))) ∧
 ((decide (((i : Nat) : Int) < ((n : Nat) : Int))) = false → 
 (LoopOK W.C W.P (37 : Nat) [] K (bodyAt b_mix [1, 1, 0]) (St.mk [((1 : Nat), (AV.ptr (1 : Nat) [])), ((2 : Nat), (AV.ptr (2 : Nat) [])), ((8 : Nat), (AV.sl (0 : Nat) [] (0 : Nat) n n true (1 : Nat))), ((9 : Nat), (AV.v (Value.int IntKind.i64 ((n : Nat) : Int)))), ((10 : Nat), (AV.v (Value.int IntKind.i64 ((i : Nat) : Int)))), ((11 : Nat), (AV.v (Value.bool false))), ((28 : Nat), (AV.arr (24 : Nat) (1 : Nat) (fun (i1 : Nat) => (AV.v (Value.int IntKind.u64 (((Sp.wordsN i1) : Nat) : Int)))))), ((29 : Nat), (AV.v (Value.int IntKind.i64 (0 : Int))))] [((0 : Nat), (Blk.c (AV.arr n (1 : Nat) (fun (i1 : Nat) => (AV.v (Value.int IntKind.u8 (((f i1) : Nat) : Int))))))), ((1 : Nat), (Blk.c (AV.arr (25 : Nat) (1 : Nat) (fun (i1 : Nat) => (AV.v (Value.int IntKind.u64 (((Sp.absN g f i i1) : Nat) : Int))))))), ((2 : Nat), (Blk.c (AV.arr (25 : Nat) (1 : Nat) (fun (i1 : Nat) => (AV.v (Value.int IntKind.i64 (((Sp.turnsN i1) : Nat) : Int)))))))] [(0 : Nat), (1 : Nat), (2 : Nat)]) (fun (e : Ex) (S' : St) => Holds W.C W.P (37 : Nat) [] K Φ (after W.C w_mix b_mix [1, 1, 0] [] lf e S'))))) := by kernel_rfl
theorem mixs_L1 (g f : Nat → Nat) (n i : Nat) (K : Nat) (Φ : Ex → St → Prop) :
  (Holds C P 37 [] K (RoundQ C 37 [] K (I_ms1 g f n) (fun i => i ≤ 24) (fun i => 24 - i) ((fun i => 24 - i) i) (rest_mix_1 K Φ)) (vc C w_mix bd_mix_1 [] (I_ms1 g f n i) lf)) =
  (((decide (((i : Nat) : Int) < (24 : Int))) = true → 
 ((((0 : Int) ≤ ((i : Nat) : Int)) ∧ (((i : Nat) : Int) < (24 : Int))) ∧
  (Fun W.C W.P (48 : Nat) [(AV.arr (25 : Nat) (1 : Nat) (fun (i1 : Nat) => (AV.v (Value.int IntKind.u64 (((Sp.permN (Sp.absN g f n) i i1) : Nat) : Int))))), (AV.arr (25 : Nat) (1 : Nat) (fun (i1 : Nat) => (AV.v (Value.int IntKind.i64 (((Sp.turnsN i1) : Nat) : Int))))), (AV.v (Value.int IntKind.u64 (((Sp.wordsN i) : Nat) : Int)))] [] (AV.arr (25 : Nat) (1 : Nat) (fun (i1 : Nat) => (AV.v (Value.int IntKind.u64 (((Sp.roundN (dN (fun (i2 : Nat) => (AV.v (Value.int IntKind.u64 (((Sp.permN (Sp.absN g f n) i i2) : Nat) : Int))))) (Sp.wordsN i) i1) : Nat) : Int))))) [] ∧
  ((∀ (i1 : Nat), ((i1 < (25 : Nat)) → True)) ∧
  ((((25 : Nat) = (25 : Nat)) ∧ (((1 : Nat) = (1 : Nat)) ∧ (∀ (i1 : Nat), ((i1 < (25 : Nat)) → ((Bool.true = true) ∧ (Bool.true = true)))))) ∧
  ((I64 (((i + 1) : Nat) : Int)) ∧
  ((RoundQ C 37 [] K (I_ms1 g f n) (fun i => i ≤ 24) (fun i => 24 - i) ((fun i => 24 - i) i) (rest_mix_1 K Φ)) Ex.normal (St.mk [((1 : Nat), (AV.ptr (1 : Nat) [])), ((2 : Nat), (AV.ptr (2 : Nat) [])), ((7 : Nat), (AV.v (Value.int IntKind.u64 (((Sp.wordsN i) : Nat) : Int)))), ((28 : Nat), (AV.arr (24 : Nat) (1 : Nat) (fun (i1 : Nat) => (AV.v (Value.int IntKind.u64 (((Sp.wordsN i1) : Nat) : Int)))))), ((29 : Nat), (AV.v (Value.int IntKind.i64 (((i + 1) : Nat) : Int)))), ((30 : Nat), (AV.v (Value.bool true)))] [((0 : Nat), (Blk.c (AV.arr n (1 : Nat) (fun (i1 : Nat) => (AV.v (Value.int IntKind.u8 (((f i1) : Nat) : Int))))))), ((1 : Nat), (Blk.c (AV.arr (25 : Nat) (1 : Nat) (fun (i1 : Nat) => (AV.v (Value.int IntKind.u64 (((Sp.roundN (dN (fun (i2 : Nat) => (AV.v (Value.int IntKind.u64 (((Sp.permN (Sp.absN g f n) i i2) : Nat) : Int))))) (Sp.wordsN i) i1) : Nat) : Int))))))), ((2 : Nat), (Blk.c (AV.arr (25 : Nat) (1 : Nat) (fun (i1 : Nat) => (AV.v (Value.int IntKind.i64 (((Sp.turnsN i1) : Nat) : Int)))))))] [(0 : Nat), (1 : Nat), (2 : Nat)])))))))) ∧
 ((decide (((i : Nat) : Int) < (24 : Int))) = false → 
 (Φ Ex.normal (St.mk [((1 : Nat), (AV.ptr (1 : Nat) [])), ((2 : Nat), (AV.ptr (2 : Nat) [])), ((28 : Nat), (AV.arr (24 : Nat) (1 : Nat) (fun (i1 : Nat) => (AV.v (Value.int IntKind.u64 (((Sp.wordsN i1) : Nat) : Int)))))), ((29 : Nat), (AV.v (Value.int IntKind.i64 ((i : Nat) : Int)))), ((30 : Nat), (AV.v (Value.bool false)))] [((0 : Nat), (Blk.c (AV.arr n (1 : Nat) (fun (i1 : Nat) => (AV.v (Value.int IntKind.u8 (((f i1) : Nat) : Int))))))), ((1 : Nat), (Blk.c (AV.arr (25 : Nat) (1 : Nat) (fun (i1 : Nat) => (AV.v (Value.int IntKind.u64 (((Sp.permN (Sp.absN g f n) i i1) : Nat) : Int))))))), ((2 : Nat), (Blk.c (AV.arr (25 : Nat) (1 : Nat) (fun (i1 : Nat) => (AV.v (Value.int IntKind.i64 (((Sp.turnsN i1) : Nat) : Int)))))))] [(0 : Nat), (1 : Nat), (2 : Nat)])))) := by kernel_rfl

theorem conv8 (b : Nat) (h : b < 256) : IntKind.wrap IntKind.u64 (b : Int) = (b : Int) := by rw [wrap_u64, Nat.mod_eq_of_lt (by omega)]

theorem abs_step (g f : Nat → Nat) (n i j : Nat) (hg : ∀ i, i < 25 → g i < 2 ^ 64) (hf : ∀ i, i < n → f i < 256) (hn : n ≤ 136) (h : i < n) :
    (if j = i / 8 then AV.v (.int .u64 (bXor IntKind.u64 ((absN g f i (i / 8) : Nat) : Int) (bShl IntKind.u64 (IntKind.wrap IntKind.u64 ((f i : Nat) : Int)) ((8 * (i % 8) : Nat) : Int)))) else AV.v (.int .u64 ((absN g f i j : Nat) : Int))) = u64 (absN g f (i + 1) j) := by
  rw [conv8 _ (hf i h), shl64, xor64 (absN_lt (hg _ (by omega)) i) (Nat.mod_lt _ (by decide))]
  simp only [absN]
  split
  · rename_i e; rw [e]
  · rfl

theorem mix_fun (ex : Bool) (g f : Nat → Nat) (n : Nat) (hn : n ≤ 136) (hg : ∀ i, i < 25 → g i < 2 ^ 64) (hf : ∀ i, i < n → f i < 256) :
    Fun C P F_mix [db n ex f, .ptr 0 [], .ptr 1 []] [(0, .c (aw 25 g)), (1, .c turnsAV)] (.tup []) [(0, .c (aw 25 (mixN g f n))), (1, .c turnsAV)] := by
  have hk : ∀ id, look [(0, Blk.c (aw 25 g)), (1, .c turnsAV)] id ≠ none → id < 2 := fun id h => by
    simp only [look] at h
    split at h
    · rename_i e; have := beq_iff.1 e; omega
    · split at h
      · rename_i e; have := beq_iff.1 e; omega
      · exact absurd rfl h
  refine in_mix (W := w_mix) rfl 2 (by simp) rfl hk ?_
  refine of_eq (mix_A ex g f n 2 _) ?_
  refine loop_inv (W := w_mix) ctx mixed ok_mix_0 (I_md0 ex g f n) (fun i => i ≤ n) (fun i => n - i) 0 (Nat.zero_le _) ?_ fun i hi => ?_
  · exact ent_of [(0, 0), (1, 1)] rfl (tm_cons rfl (sm_ptr rfl) (tm_cons rfl (sm_ptr rfl) (tm_cons rfl (sm_same rfl) (tm_cons rfl (sm_same rfl) (tm_cons rfl (sm_same rfl) tm_nil))))) (hp_cons rfl rfl (sm_same rfl) (hp_cons rfl rfl (sm_same rfl) hp_nil))
  refine of_eq (mix_L0 ex g f n i 2 _) ⟨fun h => ?_, fun h => ?_⟩
  · simp only [decide_eq_true_eq] at h
    refine ⟨(by first | omega | decide | (unfold I64; omega)), (by first | omega | decide | (unfold I64; omega)), (by first | omega | decide | (unfold I64; omega)), (by first | omega | decide | (unfold I64; omega)), (by first | omega | decide | (unfold I64; omega)), (by first | omega | decide | (unfold I64; omega)), (by first | omega | decide | (unfold I64; omega)), (by first | omega | decide | (unfold I64; omega)), (by first | omega | decide | (unfold I64; omega)), round_end (i + 1) (by omega) (ent_of [(0, 0), (1, 1)] rfl (tm_cons rfl (sm_ptr rfl) (tm_cons rfl (sm_ptr rfl) (tm_cons rfl (sm_same rfl) (tm_cons rfl (sm_same rfl) (tm_cons rfl (sm_same rfl) tm_nil))))) (hp_cons rfl rfl (sm_arr fun j hj => ?_) (hp_cons rfl rfl (sm_same rfl) hp_nil))) (by dsimp only; omega)⟩
    exact abs_step g f n i j hg hf hn (by omega)
  simp only [decide_eq_false_iff_not] at h
  obtain rfl : i = n := by omega
  have hp := permN_lt (a := absN g f i) (fun j hj => absN_lt (hg j hj) i)
  refine loop_inv (W := w_mix) ctx mixed ok_mix_1 (I_md1 g f i) (fun i => i ≤ 24) (fun i => 24 - i) 0 (by decide) ?_ fun t ht => ?_
  · exact ent_of [(0, 0), (1, 1)] rfl (tm_cons rfl (sm_ptr rfl) (tm_cons rfl (sm_ptr rfl) (tm_cons rfl (sm_same rfl) (tm_cons rfl (sm_same rfl) tm_nil)))) (hp_cons rfl rfl (sm_same rfl) (hp_cons rfl rfl (sm_same rfl) hp_nil))
  clear h
  refine of_eq (mix_L1 g f i t 2 _) ⟨fun h => ?_, fun h => ?_⟩
  · simp only [decide_eq_true_eq] at h
    refine ⟨(by first | omega | decide | (unfold I64; omega)), round_fun (permN (absN g f i) t) (wordsN t) (hp t) (wordsN_lt t), fun _ _ => trivial, ⟨rfl, rfl, fun _ _ => ⟨rfl, rfl⟩⟩, (by first | omega | decide | (unfold I64; omega)), round_end (t + 1) (by omega) (ent_of [(0, 0), (1, 1)] rfl (tm_cons rfl (sm_ptr rfl) (tm_cons rfl (sm_ptr rfl) (tm_cons rfl (sm_same rfl) (tm_cons rfl (sm_same rfl) tm_nil)))) (hp_cons rfl rfl (sm_same rfl) (hp_cons rfl rfl (sm_same rfl) hp_nil))) (by dsimp only; omega)⟩
  simp only [decide_eq_false_iff_not] at h
  obtain rfl : t = 24 := by omega
  exact funPost_of (S2 := { tm := [], hp := [(0, .c (aw 25 (mixN g f i))), (1, .c turnsAV)], seen := [0, 1] }) (by simp) (ent_of [(0, 0), (1, 1)] rfl tm_nil (hp_cons rfl rfl (sm_same rfl) (hp_cons rfl rfl (sm_same rfl) hp_nil))) rfl (.inl ⟨rfl, rfl⟩) fun _ _ h => h

theorem mixs_fun (g f : Nat → Nat) (n : Nat) (hn : n ≤ 136) (hg : ∀ i, i < 25 → g i < 2 ^ 64) (hf : ∀ i, i < n → f i < 256) :
    Fun C P F_mix [.sl 0 [] 0 n n true 1, .ptr 1 [], .ptr 2 []] [(0, .c (ab n f)), (1, .c (aw 25 g)), (2, .c turnsAV)] (.tup []) [(0, .c (ab n f)), (1, .c (aw 25 (mixN g f n))), (2, .c turnsAV)] := by
  have hk : ∀ id, look [(0, Blk.c (ab n f)), (1, .c (aw 25 g)), (2, .c turnsAV)] id ≠ none → id < 3 := fun id h => by
    simp only [look] at h
    split at h
    · rename_i e; have := beq_iff.1 e; omega
    · split at h
      · rename_i e; have := beq_iff.1 e; omega
      · split at h
        · rename_i e; have := beq_iff.1 e; omega
        · exact absurd rfl h
  refine in_mix (W := w_mix) rfl 3 (by simp) rfl hk ?_
  refine of_eq (mixs_A g f n 3 _) ?_
  refine loop_inv (W := w_mix) ctx mixed ok_mix_0 (I_ms0 g f n) (fun i => i ≤ n) (fun i => n - i) 0 (Nat.zero_le _) ?_ fun i hi => ?_
  · exact ent_of [(0, 0), (1, 1), (2, 2)] rfl (tm_cons rfl (sm_ptr rfl) (tm_cons rfl (sm_ptr rfl) (tm_cons rfl (sm_sl rfl rfl (Nat.le_refl _) (Nat.le_refl _) (fun h => ⟨h, rfl⟩)) (tm_cons rfl (sm_same rfl) (tm_cons rfl (sm_same rfl) tm_nil))))) (hp_cons rfl rfl (sm_same rfl) (hp_cons rfl rfl (sm_same rfl) (hp_cons rfl rfl (sm_same rfl) hp_nil)))
  refine of_eq (mixs_L0 g f n i 3 _) ⟨fun h => ?_, fun h => ?_⟩
  · simp only [decide_eq_true_eq] at h
    refine ⟨(by first | omega | decide | (unfold I64; omega)), (by first | omega | decide | (unfold I64; omega)), (by first | omega | decide | (unfold I64; omega)), (by first | omega | decide | (unfold I64; omega)), (by first | omega | decide | (unfold I64; omega)), (by first | omega | decide | (unfold I64; omega)), (by first | omega | decide | (unfold I64; omega)), (by first | omega | decide | (unfold I64; omega)), (by first | omega | decide | (unfold I64; omega)), round_end (i + 1) (by omega) (ent_of [(0, 0), (1, 1), (2, 2)] rfl (tm_cons rfl (sm_ptr rfl) (tm_cons rfl (sm_ptr rfl) (tm_cons rfl (sm_sl rfl rfl (Nat.le_refl _) (Nat.le_refl _) (fun h => ⟨h, rfl⟩)) (tm_cons rfl (sm_same rfl) (tm_cons rfl (sm_same rfl) tm_nil))))) (hp_cons rfl rfl (sm_same rfl) (hp_cons rfl rfl (sm_arr fun j hj => ?_) (hp_cons rfl rfl (sm_same rfl) hp_nil)))) (by dsimp only; omega)⟩
    rw [Nat.zero_add]
    exact abs_step g f n i j hg hf hn (by omega)
  simp only [decide_eq_false_iff_not] at h
  obtain rfl : i = n := by omega
  have hp := permN_lt (a := absN g f i) (fun j hj => absN_lt (hg j hj) i)
  refine loop_inv (W := w_mix) ctx mixed ok_mix_1 (I_ms1 g f i) (fun i => i ≤ 24) (fun i => 24 - i) 0 (by decide) ?_ fun t ht => ?_
  · exact ent_of [(0, 0), (1, 1), (2, 2)] rfl (tm_cons rfl (sm_ptr rfl) (tm_cons rfl (sm_ptr rfl) (tm_cons rfl (sm_same rfl) (tm_cons rfl (sm_same rfl) tm_nil)))) (hp_cons rfl rfl (sm_same rfl) (hp_cons rfl rfl (sm_same rfl) (hp_cons rfl rfl (sm_same rfl) hp_nil)))
  clear h
  refine of_eq (mixs_L1 g f i t 3 _) ⟨fun h => ?_, fun h => ?_⟩
  · simp only [decide_eq_true_eq] at h
    refine ⟨(by first | omega | decide | (unfold I64; omega)), round_fun (permN (absN g f i) t) (wordsN t) (hp t) (wordsN_lt t), fun _ _ => trivial, ⟨rfl, rfl, fun _ _ => ⟨rfl, rfl⟩⟩, (by first | omega | decide | (unfold I64; omega)), round_end (t + 1) (by omega) (ent_of [(0, 0), (1, 1), (2, 2)] rfl (tm_cons rfl (sm_ptr rfl) (tm_cons rfl (sm_ptr rfl) (tm_cons rfl (sm_same rfl) (tm_cons rfl (sm_same rfl) tm_nil)))) (hp_cons rfl rfl (sm_same rfl) (hp_cons rfl rfl (sm_same rfl) (hp_cons rfl rfl (sm_same rfl) hp_nil)))) (by dsimp only; omega)⟩
  simp only [decide_eq_false_iff_not] at h
  obtain rfl : t = 24 := by omega
  exact funPost_of (S2 := { tm := [], hp := [(0, .c (ab i f)), (1, .c (aw 25 (mixN g f i))), (2, .c turnsAV)], seen := [0, 1, 2] }) (by simp) (ent_of [(0, 0), (1, 1), (2, 2)] rfl tm_nil (hp_cons rfl rfl (sm_same rfl) (hp_cons rfl rfl (sm_same rfl) (hp_cons rfl rfl (sm_same rfl) hp_nil)))) rfl (.inl ⟨rfl, rfl⟩) fun _ _ h => h
end Go.Bu.W

namespace Go.Bu.W
open Sp
def w_sum : Way := way [0, 2, 3, 4, 5, 6, 7, 8, 13, 36, 37] 52 [9,10,11]
abbrev mixF : AV := .fn (.func F_mix) [.ptr 4 [], .ptr 3 []]
abbrev zb (n : Nat) : AV := .arr n 1 (fun _ => .v (.int .u8 0))
def rest (l : List Nat) (m : Nat) : Nat → Nat := fun i => l.getD (136 * m + i) 0
def I_s0 (ex : Bool) (l : List Nat) (m : Nat) : St := { tm := [(0, db (l.length - 136 * m) ex (rest l m)), (2, .ptr 2 []), (4, .ptr 4 []), (5, mixF)], hp := [(2, .c (zb 32)), (3, .c turnsAV), (4, .c (aw 25 (stN l m)))], seen := [2, 3, 4] }
def blk6 (l : List Nat) (i : Nat) : Nat := if i < l.length % 136 then l.getD (136 * (l.length / 136) + i) 0 else if i = l.length % 136 then 6 else 0
def blk0 (l : List Nat) (i : Nat) : Nat := if i < l.length % 136 then l.getD (136 * (l.length / 136) + i) 0 else 0
def S_9 (ex : Bool) (l : List Nat) : St := { tm := [(0, db (l.length % 136) ex (rest l (l.length / 136))), (2, .ptr 2 []), (4, .ptr 4 []), (5, mixF), (6, .sl 20 [] 0 136 136 true 1)], hp := [(2, .c (zb 32)), (3, .c turnsAV), (4, .c (aw 25 (stN l (l.length / 136)))), (20, .c (ab 136 (blk0 l)))], seen := [2, 3, 4, 20] }
def S_10 (l : List Nat) : St := { tm := [(2, .ptr 2 []), (4, .ptr 4 []), (5, mixF), (6, .sl 20 [] 0 136 136 true 1)], hp := [(2, .c (zb 32)), (3, .c turnsAV), (4, .c (aw 25 (stN l (l.length / 136)))), (20, .c (ab 136 (blk6 l)))], seen := [2, 3, 4, 20] }
def S_11 (l : List Nat) : St := { tm := [(2, .ptr 2 []), (4, .ptr 4 []), (5, mixF), (6, .sl 20 [] 0 136 136 true 1)], hp := [(2, .c (zb 32)), (3, .c turnsAV), (4, .c (aw 25 (stN l (l.length / 136)))), (20, .c (ab 136 (lastBlk l)))], seen := [2, 3, 4, 20] }
def endN (l : List Nat) : Nat → Nat := mixN (stN l (l.length / 136)) (lastBlk l) 136
def I_s1 (l : List Nat) (i : Nat) : St := { tm := [(2, .ptr 2 []), (4, .ptr 4 []), (7, .ptr 7 []), (36, i64 i)], hp := [(2, .c (zb 32)), (4, .c (aw 25 (endN l))), (7, .c (ab 32 (fun j => if j < i then sumN l j else 0)))], seen := [2, 4, 7] }

theorem sum_A (ex : Bool) (l : List Nat) (K : Nat) (Φ : Ex → St → Prop) :
  (Holds C P 52 [] K Φ (vc C w_sum b_sum [] (start [db l.length ex (fun i => l.getD i 0)] []) lf)) =
  (Fun W.C W.P (46 : Nat) [] [] (AV.arr (25 : Nat) (1 : Nat) (fun (i : Nat) => (AV.v (Value.int IntKind.i64 (((Sp.turnsN i) : Nat) : Int))))) [] ∧
 ((∀ (i : Nat), ((i < (25 : Nat)) → True)) ∧
 ((((25 : Nat) = (25 : Nat)) ∧ (((1 : Nat) = (1 : Nat)) ∧ (∀ (i : Nat), ((i < (25 : Nat)) → ((true = true) ∧ (Bool.true = true)))))) ∧
 (LoopOK W.C W.P (52 : Nat) [] K (bodyAt b_sum [1, 1, 1, 1, 0, 0]) (St.mk [((0 : Nat), (AV.dat (List.length l) ex (1 : Nat) (fun (i : Nat) => (AV.v (Value.int IntKind.u8 (((List.getD l i (0 : Nat)) : Nat) : Int)))))), ((2 : Nat), (AV.ptr (2 : Nat) [])), ((3 : Nat), (AV.ptr (3 : Nat) [])), ((4 : Nat), (AV.ptr (4 : Nat) [])), ((5 : Nat), (AV.fn (Fn.func (47 : Nat)) [(AV.ptr (4 : Nat) []), (AV.ptr (3 : Nat) [])]))] [((2 : Nat), (Blk.c (AV.arr (32 : Nat) (1 : Nat) (fun (x : Nat) => (AV.v (Value.int IntKind.u8 (0 : Int))))))), ((3 : Nat), (Blk.c (AV.arr (25 : Nat) (1 : Nat) (fun (i : Nat) => (AV.v (Value.int IntKind.i64 (((Sp.turnsN i) : Nat) : Int))))))), ((4 : Nat), (Blk.c (AV.arr (25 : Nat) (1 : Nat) (fun (x : Nat) => (AV.v (Value.int IntKind.u64 (0 : Int)))))))] [(4 : Nat), (3 : Nat), (2 : Nat)]) (fun (e : Ex) (S' : St) => Holds W.C W.P (52 : Nat) [] K Φ (after W.C w_sum b_sum [1, 1, 1, 1, 0, 0] [] lf e S')))))) := by kernel_rfl
noncomputable abbrev bd_sum_0 : Code := bodyAt (b_sum) [1, 1, 1, 1, 0, 0]
theorem ok_sum_0 : codeOK bd_sum_0 = true := by kernel_rfl
noncomputable abbrev rest_sum_0 (K : Nat) (Φ : Ex → St → Prop) : Ex → St → Prop := fun e S' => Holds C P 52 [] K Φ (after C w_sum (b_sum) [1, 1, 1, 1, 0, 0] [] lf e S')
theorem sum_L0 (ex : Bool) (l : List Nat) (m : Nat) (K : Nat) (Φ : Ex → St → Prop) :
  (Holds C P 52 [] K (RoundQ C 52 [] K (I_s0 ex l) (fun m => m ≤ l.length / 136) (fun m => l.length / 136 - m) ((fun m => l.length / 136 - m) (m)) (rest_sum_0 K Φ)) (vc C w_sum bd_sum_0 [] ((I_s0 ex l) (m)) lf)) =
  (((decide (((((List.length l) - ((136 : Nat) * m)) : Nat) : Int) ≥ (136 : Int))) = true → 
 ((((0 : Int) ≤ (0 : Int)) ∧ (((0 : Int) ≤ (136 : Int)) ∧ ((136 : Int) ≤ ((((List.length l) - ((136 : Nat) * m)) : Nat) : Int)))) ∧
  (Fun W.C W.P (47 : Nat) [(AV.dat (136 : Nat) Bool.false (1 : Nat) (fun (i : Nat) => (AV.v (Value.int IntKind.u8 (((W.rest l m ((0 : Nat) + i)) : Nat) : Int))))), (AV.ptr (0 : Nat) []), (AV.ptr (1 : Nat) [])] [((0 : Nat), (Blk.c (AV.arr (25 : Nat) (1 : Nat) (fun (i : Nat) => (AV.v (Value.int IntKind.u64 (((Sp.stN l m i) : Nat) : Int))))))), ((1 : Nat), (Blk.c (AV.arr (25 : Nat) (1 : Nat) (fun (i : Nat) => (AV.v (Value.int IntKind.i64 (((Sp.turnsN i) : Nat) : Int)))))))] (AV.tup []) [((0 : Nat), (Blk.c (AV.arr (25 : Nat) (1 : Nat) (fun (i : Nat) => (AV.v (Value.int IntKind.u64 (((Sp.mixN (dN (fun (i1 : Nat) => (AV.v (Value.int IntKind.u64 (((Sp.stN l m i1) : Nat) : Int))))) (dN (fun (i1 : Nat) => (AV.v (Value.int IntKind.u8 (((W.rest l m ((0 : Nat) + i1)) : Nat) : Int))))) (136 : Nat) i) : Nat) : Int))))))), ((1 : Nat), (Blk.c (AV.arr (25 : Nat) (1 : Nat) (fun (i : Nat) => (AV.v (Value.int IntKind.i64 (((Sp.turnsN i) : Nat) : Int)))))))] ∧
  ((((0 : Int) ≤ (136 : Int)) ∧ (((136 : Int) ≤ ((((List.length l) - ((136 : Nat) * m)) : Nat) : Int)) ∧ (((((List.length l) - ((136 : Nat) * m)) : Nat) : Int) ≤ ((((List.length l) - ((136 : Nat) * m)) : Nat) : Int)))) ∧
  ((RoundQ C 52 [] K (I_s0 ex l) (fun m => m ≤ l.length / 136) (fun m => l.length / 136 - m) ((fun m => l.length / 136 - m) (m)) (rest_sum_0 K Φ)) Ex.normal (St.mk [((0 : Nat), (AV.dat (((List.length l) - ((136 : Nat) * m)) - (136 : Nat)) ex (1 : Nat) (fun (i : Nat) => (AV.v (Value.int IntKind.u8 (((W.rest l m ((136 : Nat) + i)) : Nat) : Int)))))), ((2 : Nat), (AV.ptr (2 : Nat) [])), ((4 : Nat), (AV.ptr (4 : Nat) [])), ((5 : Nat), (AV.fn (Fn.func (47 : Nat)) [(AV.ptr (4 : Nat) []), (AV.ptr (3 : Nat) [])])), ((13 : Nat), (AV.v (Value.bool true)))] [((2 : Nat), (Blk.c (AV.arr (32 : Nat) (1 : Nat) (fun (x : Nat) => (AV.v (Value.int IntKind.u8 (0 : Int))))))), ((3 : Nat), (Blk.c (AV.arr (25 : Nat) (1 : Nat) (fun (i : Nat) => (AV.v (Value.int IntKind.i64 (((Sp.turnsN i) : Nat) : Int))))))), ((4 : Nat), (Blk.c (AV.arr (25 : Nat) (1 : Nat) (fun (i : Nat) => (AV.v (Value.int IntKind.u64 (((Sp.mixN (dN (fun (i1 : Nat) => (AV.v (Value.int IntKind.u64 (((Sp.stN l m i1) : Nat) : Int))))) (dN (fun (i1 : Nat) => (AV.v (Value.int IntKind.u8 (((W.rest l m ((0 : Nat) + i1)) : Nat) : Int))))) (136 : Nat) i) : Nat) : Int)))))))] [(2 : Nat), (3 : Nat), (4 : Nat)])))))) ∧
 ((decide (((((List.length l) - ((136 : Nat) * m)) : Nat) : Int) ≥ (136 : Int))) = false → 
 ((((0 : Int) ≤ (136 : Int)) ∧ ((136 : Int) ≤ (136 : Int))) ∧
  ((((136 : Int) ≤ (281474976710656 : Int)) ∧ ((136 : Int) ≤ (9223372036854775807 : Int))) ∧
  ((∀ (i : Nat), ((i < (Min.min ((List.length l) - ((136 : Nat) * m)) (136 : Nat))) → ((Bool.true = true) ∧ (Bool.true = true)))) ∧
  (∃ (S2 : St), Ent W.C (52 : Nat) [] K (St.mk [((0 : Nat), (AV.dat ((List.length l) - ((136 : Nat) * m)) ex (1 : Nat) (fun (i : Nat) => (AV.v (Value.int IntKind.u8 (((W.rest l m i) : Nat) : Int)))))), ((2 : Nat), (AV.ptr (2 : Nat) [])), ((4 : Nat), (AV.ptr (4 : Nat) [])), ((5 : Nat), (AV.fn (Fn.func (47 : Nat)) [(AV.ptr (4 : Nat) []), (AV.ptr (3 : Nat) [])])), ((6 : Nat), (AV.sl (20 : Nat) [] (0 : Nat) (136 : Nat) (136 : Nat) true (1 : Nat))), ((13 : Nat), (AV.v (Value.bool false)))] [((2 : Nat), (Blk.c (AV.arr (32 : Nat) (1 : Nat) (fun (x : Nat) => (AV.v (Value.int IntKind.u8 (0 : Int))))))), ((3 : Nat), (Blk.c (AV.arr (25 : Nat) (1 : Nat) (fun (i : Nat) => (AV.v (Value.int IntKind.i64 (((Sp.turnsN i) : Nat) : Int))))))), ((4 : Nat), (Blk.c (AV.arr (25 : Nat) (1 : Nat) (fun (i : Nat) => (AV.v (Value.int IntKind.u64 (((Sp.stN l m i) : Nat) : Int))))))), ((20 : Nat), (Blk.c (AV.arr (136 : Nat) (1 : Nat) (lay (0 : Nat) (Min.min ((List.length l) - ((136 : Nat) * m)) (136 : Nat)) (fun (x : Nat) => (AV.v (Value.int IntKind.u8 (0 : Int)))) (fun (i : Nat) => (AV.v (Value.int IntKind.u8 (((W.rest l m i) : Nat) : Int))))))))] [(20 : Nat), (2 : Nat), (3 : Nat), (4 : Nat)]) S2 ∧ Holds W.C W.P (52 : Nat) [] K Φ (cutAt W.C w_sum b_sum [1, 1, 1, 1, 1, 1, 1, 0] S2 (after W.C w_sum b_sum [1, 1, 1, 1, 1, 1, 1, 0] [] lf)))))))) := by kernel_rfl
theorem sum_C9 (ex : Bool) (l : List Nat) (K : Nat) (Φ : Ex → St → Prop) :
  (Holds C P 52 [] K Φ (cutAt C w_sum b_sum [1, 1, 1, 1, 1, 1, 1, 0] (S_9 ex l) (after C w_sum b_sum [1, 1, 1, 1, 1, 1, 1, 0] [] lf))) =
  ((((0 : Int) ≤ ((((List.length l) % (136 : Nat)) : Nat) : Int)) ∧ (((((List.length l) % (136 : Nat)) : Nat) : Int) < (136 : Int))) ∧
 (∃ (S2 : St), Ent W.C (52 : Nat) [] K (St.mk [((0 : Nat), (AV.dat ((List.length l) % (136 : Nat)) ex (1 : Nat) (fun (i : Nat) => (AV.v (Value.int IntKind.u8 (((W.rest l ((List.length l) / (136 : Nat)) i) : Nat) : Int)))))), ((2 : Nat), (AV.ptr (2 : Nat) [])), ((4 : Nat), (AV.ptr (4 : Nat) [])), ((5 : Nat), (AV.fn (Fn.func (47 : Nat)) [(AV.ptr (4 : Nat) []), (AV.ptr (3 : Nat) [])])), ((6 : Nat), (AV.sl (20 : Nat) [] (0 : Nat) (136 : Nat) (136 : Nat) true (1 : Nat)))] [((2 : Nat), (Blk.c (AV.arr (32 : Nat) (1 : Nat) (fun (x : Nat) => (AV.v (Value.int IntKind.u8 (0 : Int))))))), ((3 : Nat), (Blk.c (AV.arr (25 : Nat) (1 : Nat) (fun (i : Nat) => (AV.v (Value.int IntKind.i64 (((Sp.turnsN i) : Nat) : Int))))))), ((4 : Nat), (Blk.c (AV.arr (25 : Nat) (1 : Nat) (fun (i : Nat) => (AV.v (Value.int IntKind.u64 (((Sp.stN l ((List.length l) / (136 : Nat)) i) : Nat) : Int))))))), ((20 : Nat), (Blk.c (AV.arr (136 : Nat) (1 : Nat) (fun (j : Nat) => (if (j = ((0 : Nat) + ((List.length l) % (136 : Nat)))) then (AV.v (Value.int IntKind.u8 (6 : Int))) else (AV.v (Value.int IntKind.u8 (((W.blk0 l j) : Nat) : Int))))))))] [(2 : Nat), (3 : Nat), (4 : Nat), (20 : Nat)]) S2 ∧ Holds W.C W.P (52 : Nat) [] K Φ (cutAt W.C w_sum b_sum [1, 1, 1, 1, 1, 1, 1, 1, 0] S2 (after W.C w_sum b_sum [1, 1, 1, 1, 1, 1, 1, 1, 0] [] lf)))) := by kernel_rfl
theorem sum_C10 (l : List Nat) (K : Nat) (Φ : Ex → St → Prop) :
  (Holds C P 52 [] K Φ (cutAt C w_sum b_sum [1, 1, 1, 1, 1, 1, 1, 1, 0] (S_10 l) (after C w_sum b_sum [1, 1, 1, 1, 1, 1, 1, 1, 0] [] lf))) =
  ((((0 : Int) ≤ (135 : Int)) ∧ ((135 : Int) < (136 : Int))) ∧
 ((((0 : Int) ≤ (135 : Int)) ∧ ((135 : Int) < (136 : Int))) ∧
 (∃ (S2 : St), Ent W.C (52 : Nat) [] K (St.mk [((2 : Nat), (AV.ptr (2 : Nat) [])), ((4 : Nat), (AV.ptr (4 : Nat) [])), ((5 : Nat), (AV.fn (Fn.func (47 : Nat)) [(AV.ptr (4 : Nat) []), (AV.ptr (3 : Nat) [])])), ((6 : Nat), (AV.sl (20 : Nat) [] (0 : Nat) (136 : Nat) (136 : Nat) true (1 : Nat)))] [((2 : Nat), (Blk.c (AV.arr (32 : Nat) (1 : Nat) (fun (x : Nat) => (AV.v (Value.int IntKind.u8 (0 : Int))))))), ((3 : Nat), (Blk.c (AV.arr (25 : Nat) (1 : Nat) (fun (i : Nat) => (AV.v (Value.int IntKind.i64 (((Sp.turnsN i) : Nat) : Int))))))), ((4 : Nat), (Blk.c (AV.arr (25 : Nat) (1 : Nat) (fun (i : Nat) => (AV.v (Value.int IntKind.u64 (((Sp.stN l ((List.length l) / (136 : Nat)) i) : Nat) : Int))))))), ((20 : Nat), (Blk.c (AV.arr (136 : Nat) (1 : Nat) (fun (j : Nat) => (if (j = (135 : Nat)) then (AV.v (Value.int IntKind.u8 (IntKind.wrap IntKind.u8 ((((W.blk6 l (135 : Nat)) + 128) : Nat) : Int)))) else (AV.v (Value.int IntKind.u8 (((W.blk6 l j) : Nat) : Int))))))))] [(2 : Nat), (3 : Nat), (4 : Nat), (20 : Nat)]) S2 ∧ Holds W.C W.P (52 : Nat) [] K Φ (cutAt W.C w_sum b_sum [1, 1, 1, 1, 1, 1, 1, 1, 1, 0] S2 (after W.C w_sum b_sum [1, 1, 1, 1, 1, 1, 1, 1, 1, 0] [] lf))))) := by kernel_rfl
theorem sum_C11 (l : List Nat) (K : Nat) (Φ : Ex → St → Prop) :
  (Holds C P 52 [] K Φ (cutAt C w_sum b_sum [1, 1, 1, 1, 1, 1, 1, 1, 1, 0] (S_11 l) (after C w_sum b_sum [1, 1, 1, 1, 1, 1, 1, 1, 1, 0] [] lf))) =
  (Fun W.C W.P (47 : Nat) [(AV.sl (0 : Nat) [] (0 : Nat) (136 : Nat) (136 : Nat) true (1 : Nat)), (AV.ptr (1 : Nat) []), (AV.ptr (2 : Nat) [])] [((0 : Nat), (Blk.c (AV.arr (136 : Nat) (1 : Nat) (fun (i : Nat) => (AV.v (Value.int IntKind.u8 (((Sp.lastBlk l i) : Nat) : Int))))))), ((1 : Nat), (Blk.c (AV.arr (25 : Nat) (1 : Nat) (fun (i : Nat) => (AV.v (Value.int IntKind.u64 (((Sp.stN l ((List.length l) / (136 : Nat)) i) : Nat) : Int))))))), ((2 : Nat), (Blk.c (AV.arr (25 : Nat) (1 : Nat) (fun (i : Nat) => (AV.v (Value.int IntKind.i64 (((Sp.turnsN i) : Nat) : Int)))))))] (AV.tup []) [((0 : Nat), (Blk.c (AV.arr (136 : Nat) (1 : Nat) (fun (i : Nat) => (AV.v (Value.int IntKind.u8 (((Sp.lastBlk l i) : Nat) : Int))))))), ((1 : Nat), (Blk.c (AV.arr (25 : Nat) (1 : Nat) (fun (i : Nat) => (AV.v (Value.int IntKind.u64 (((Sp.mixN (dN (fun (i1 : Nat) => (AV.v (Value.int IntKind.u64 (((Sp.stN l ((List.length l) / (136 : Nat)) i1) : Nat) : Int))))) (dN (fun (i1 : Nat) => (AV.v (Value.int IntKind.u8 (((Sp.lastBlk l i1) : Nat) : Int))))) (136 : Nat) i) : Nat) : Int))))))), ((2 : Nat), (Blk.c (AV.arr (25 : Nat) (1 : Nat) (fun (i : Nat) => (AV.v (Value.int IntKind.i64 (((Sp.turnsN i) : Nat) : Int)))))))] ∧
 (LoopOK W.C W.P (52 : Nat) [] K (bodyAt b_sum [1, 1, 1, 1, 1, 1, 1, 1, 1, 1, 1, 0, 1, 0]) (St.mk [((2 : Nat), (AV.ptr (2 : Nat) [])), ((4 : Nat), (AV.ptr (4 : Nat) [])), ((5 : Nat), (AV.fn (Fn.func (47 : Nat)) [(AV.ptr (4 : Nat) []), (AV.ptr (3 : Nat) [])])), ((6 : Nat), (AV.sl (20 : Nat) [] (0 : Nat) (136 : Nat) (136 : Nat) true (1 : Nat))), ((7 : Nat), (AV.ptr (7 : Nat) [])), ((36 : Nat), (AV.v (Value.int IntKind.i64 (0 : Int))))] [((2 : Nat), (Blk.c (AV.arr (32 : Nat) (1 : Nat) (fun (x : Nat) => (AV.v (Value.int IntKind.u8 (0 : Int))))))), ((3 : Nat), (Blk.c (AV.arr (25 : Nat) (1 : Nat) (fun (i : Nat) => (AV.v (Value.int IntKind.i64 (((Sp.turnsN i) : Nat) : Int))))))), ((4 : Nat), (Blk.c (AV.arr (25 : Nat) (1 : Nat) (fun (i : Nat) => (AV.v (Value.int IntKind.u64 (((Sp.mixN (dN (fun (i1 : Nat) => (AV.v (Value.int IntKind.u64 (((Sp.stN l ((List.length l) / (136 : Nat)) i1) : Nat) : Int))))) (dN (fun (i1 : Nat) => (AV.v (Value.int IntKind.u8 (((Sp.lastBlk l i1) : Nat) : Int))))) (136 : Nat) i) : Nat) : Int))))))), ((7 : Nat), (Blk.c (AV.arr (32 : Nat) (1 : Nat) (fun (x : Nat) => (AV.v (Value.int IntKind.u8 (0 : Int))))))), ((20 : Nat), (Blk.c (AV.arr (136 : Nat) (1 : Nat) (fun (i : Nat) => (AV.v (Value.int IntKind.u8 (((Sp.lastBlk l i) : Nat) : Int)))))))] [(7 : Nat), (2 : Nat), (3 : Nat), (4 : Nat), (20 : Nat)]) (fun (e : Ex) (S' : St) => Holds W.C W.P (52 : Nat) [] K Φ (after W.C w_sum b_sum [1, 1, 1, 1, 1, 1, 1, 1, 1, 1, 1, 0, 1, 0] [] lf e S')))) := by kernel_rfl
noncomputable abbrev bd_sum_1 : Code := bodyAt (b_sum) [1, 1, 1, 1, 1, 1, 1, 1, 1, 1, 1, 0, 1, 0]
theorem ok_sum_1 : codeOK bd_sum_1 = true := by kernel_rfl
noncomputable abbrev rest_sum_1 (K : Nat) (Φ : Ex → St → Prop) : Ex → St → Prop := fun e S' => Holds C P 52 [] K Φ (after C w_sum (b_sum) [1, 1, 1, 1, 1, 1, 1, 1, 1, 1, 1, 0, 1, 0] [] lf e S')
theorem sum_L1 (l : List Nat) (i : Nat) (K : Nat) (Φ : Ex → St → Prop) :
  (Holds C P 52 [] K (RoundQ C 52 [] K (I_s1 l) (fun i => i ≤ 32) (fun i => 32 - i) ((fun i => 32 - i) (i)) (rest_sum_1 K Φ)) (vc C w_sum bd_sum_1 [] ((I_s1 l) (i)) lf)) =
  (((decide (((i : Nat) : Int) < (32 : Int))) = true → 
 (((8 : Int) ≠ (0 : Int)) ∧
  ((I64 (((i / 8) : Nat) : Int)) ∧
  ((((0 : Int) ≤ (((i / 8) : Nat) : Int)) ∧ ((((i / 8) : Nat) : Int) < (25 : Int))) ∧
  (((8 : Int) ≠ (0 : Int)) ∧
  ((I64 (((8 * (i % 8)) : Nat) : Int)) ∧
  (((0 : Int) ≤ (((8 * (i % 8)) : Nat) : Int)) ∧
  ((((0 : Int) ≤ ((i : Nat) : Int)) ∧ (((i : Nat) : Int) < (32 : Int))) ∧
  ((I64 (((i + 1) : Nat) : Int)) ∧
  ((RoundQ C 52 [] K (I_s1 l) (fun i => i ≤ 32) (fun i => 32 - i) ((fun i => 32 - i) (i)) (rest_sum_1 K Φ)) Ex.normal (St.mk [((2 : Nat), (AV.ptr (2 : Nat) [])), ((4 : Nat), (AV.ptr (4 : Nat) [])), ((7 : Nat), (AV.ptr (7 : Nat) [])), ((8 : Nat), (AV.v (Value.int IntKind.i64 ((i : Nat) : Int)))), ((36 : Nat), (AV.v (Value.int IntKind.i64 (((i + 1) : Nat) : Int)))), ((37 : Nat), (AV.v (Value.bool true)))] [((2 : Nat), (Blk.c (AV.arr (32 : Nat) (1 : Nat) (fun (x : Nat) => (AV.v (Value.int IntKind.u8 (0 : Int))))))), ((4 : Nat), (Blk.c (AV.arr (25 : Nat) (1 : Nat) (fun (i1 : Nat) => (AV.v (Value.int IntKind.u64 (((W.endN l i1) : Nat) : Int))))))), ((7 : Nat), (Blk.c (AV.arr (32 : Nat) (1 : Nat) (fun (j : Nat) => (if (j = i) then (AV.v (Value.int IntKind.u8 (IntKind.wrap IntKind.u8 (bShr IntKind.u64 (((W.endN l (i / 8)) : Nat) : Int) (((8 * (i % 8)) : Nat) : Int))))) else (AV.v (Value.int IntKind.u8 (((if (j < i) then (Sp.sumN l j) else (0 : Nat)) : Nat) : Int))))))))] [(2 : Nat), (4 : Nat), (7 : Nat)]))))))))))) ∧
 ((decide (((i : Nat) : Int) < (32 : Int))) = false → 
 ((((32 : Nat) = (32 : Nat)) ∧ (((1 : Nat) = (1 : Nat)) ∧ (∀ (i1 : Nat), ((i1 < (32 : Nat)) → ((true = true) ∧ (Bool.true = true)))))) ∧
  (Φ Ex.ret (St.mk [((2 : Nat), (AV.ptr (2 : Nat) [])), ((4 : Nat), (AV.ptr (4 : Nat) [])), ((7 : Nat), (AV.ptr (7 : Nat) [])), ((36 : Nat), (AV.v (Value.int IntKind.i64 ((i : Nat) : Int)))), ((37 : Nat), (AV.v (Value.bool false)))] [((2 : Nat), (Blk.c (AV.arr (32 : Nat) (1 : Nat) (fun (i1 : Nat) => (AV.v (Value.int IntKind.u8 (((if (i1 < i) then (Sp.sumN l i1) else (0 : Nat)) : Nat) : Int))))))), ((4 : Nat), (Blk.c (AV.arr (25 : Nat) (1 : Nat) (fun (i1 : Nat) => (AV.v (Value.int IntKind.u64 (((W.endN l i1) : Nat) : Int))))))), ((7 : Nat), (Blk.c (AV.arr (32 : Nat) (1 : Nat) (fun (i1 : Nat) => (AV.v (Value.int IntKind.u8 (((if (i1 < i) then (Sp.sumN l i1) else (0 : Nat)) : Nat) : Int)))))))] [(2 : Nat), (4 : Nat), (7 : Nat)]))))) := by kernel_rfl

theorem getD_lt {l : List Nat} {b : Nat} (h : ∀ x ∈ l, x < b) (hb : 0 < b) (i : Nat) : l.getD i 0 < b := by
  rw [List.getD_eq_getElem?_getD]
  cases hx : l[i]? with
  | none => exact hb
  | some x => exact h x (List.mem_of_getElem? hx)

theorem blk6_lt {l : List Nat} (h : ∀ x ∈ l, x < 256) (i : Nat) : blk6 l i < 256 := by
  unfold blk6
  split
  · exact getD_lt h (by decide) _
  · split <;> decide
theorem last_eq (l : List Nat) (i : Nat) : lastBlk l i = blk6 l i + (if i = 135 then 128 else 0) := rfl
theorem last_lt {l : List Nat} (h : ∀ x ∈ l, x < 256) (i : Nat) (hi : i < 136) : lastBlk l i < 256 := by
  rw [last_eq]
  by_cases e : i = 135
  · subst e
    have hm : l.length % 136 < 136 := Nat.mod_lt _ (by decide)
    have : blk6 l 135 < 128 := by
      unfold blk6
      rw [if_neg (by omega)]
      split <;> decide
    rw [if_pos rfl]; omega
  · rw [if_neg e]; exact blk6_lt h i

theorem sum_fun (ex : Bool) (l : List Nat) (hl : ∀ x ∈ l, x < 256) (hn : l.length < 2 ^ 62) : Fun C P F_sum [db l.length ex (fun i => l.getD i 0)] [] (sumAV l) [] := by
  refine in_sum (W := w_sum) rfl 0 (by simp) rfl (fun id h => absurd rfl h) ?_
  refine of_eq (sum_A ex l 0 _) ⟨turns_fun, fun _ _ => trivial, ⟨rfl, rfl, fun _ _ => ⟨rfl, rfl⟩⟩, ?_⟩
  refine loop_inv (W := w_sum) ctx mixed ok_sum_0 (I_s0 ex l) (fun m => m ≤ l.length / 136) (fun m => l.length / 136 - m) 0 (Nat.zero_le _) ?_ fun m hm => ?_
  · exact ent_of [(2, 2), (3, 3), (4, 4)] rfl (tm_cons rfl (sm_dat' rfl id (fun i _ => by simp [rest])) (tm_cons rfl (sm_ptr rfl) (tm_cons rfl (sm_ptr rfl) (tm_cons rfl (sm_fn (sms_cons (sm_ptr rfl) (sms_cons (sm_ptr rfl) sms_nil))) tm_nil)))) (hp_cons rfl rfl (sm_same rfl) (hp_cons rfl rfl (sm_same rfl) (hp_cons rfl rfl (sm_same rfl) hp_nil)))
  refine of_eq (sum_L0 ex l m 0 _) ⟨fun h => ?_, fun h => ?_⟩
  · simp only [ge_iff_le, decide_eq_true_eq] at h
    have hr : ∀ i, rest l m i < 256 := fun i => getD_lt hl (by decide) _
    refine ⟨(by first | omega | decide | (unfold I64; omega)), mix_fun false (stN l m) (fun i => rest l m (0 + i)) 136 (by decide) (stN_lt m) (fun i _ => hr _), (by first | omega | decide | (unfold I64; omega)), round_end (m + 1) (by omega) (ent_of [(2, 2), (3, 3), (4, 4)] rfl
      (tm_cons rfl (sm_dat' (by omega) id (fun i _ => by simp only [rest]; rw [show 136 * m + (136 + i) = 136 * (m + 1) + i by omega])) (tm_cons rfl (sm_ptr rfl) (tm_cons rfl (sm_ptr rfl) (tm_cons rfl (sm_fn (sms_cons (sm_ptr rfl) (sms_cons (sm_ptr rfl) sms_nil))) tm_nil)))) (hp_cons rfl rfl (sm_same rfl) (hp_cons rfl rfl (sm_same rfl) (hp_cons rfl rfl (sm_arr fun i hi => ?_) hp_nil)))) (by dsimp only; omega)⟩
    show u64 _ = u64 (mixN (stN l m) (fun i => l.getD (136 * m + i) 0) 136 i)
    have e : (dN fun i1 => u8 (rest l m (0 + i1))) = fun i => l.getD (136 * m + i) 0 := by
      funext j
      show rest l m (0 + j) = _
      rw [Nat.zero_add]; rfl
    rw [e]; rfl
  simp only [ge_iff_le, decide_eq_false_iff_not] at h
  obtain rfl : m = l.length / 136 := by omega
  have hmod : l.length - 136 * (l.length / 136) = l.length % 136 := by omega
  have hml : l.length % 136 < 136 := Nat.mod_lt _ (by decide)
  rw [hmod]
  refine ⟨(by first | omega | decide | (unfold I64; omega)), (by first | omega | decide | (unfold I64; omega)), fun _ _ => ⟨rfl, rfl⟩, cut_ok (S2 := S_9 ex l) (ent_of [(2, 2), (3, 3), (4, 4), (20, 20)] rfl
    (tm_cons rfl (sm_same rfl) (tm_cons rfl (sm_ptr rfl) (tm_cons rfl (sm_ptr rfl) (tm_cons rfl (sm_fn (sms_cons (sm_ptr rfl) (sms_cons (sm_ptr rfl) sms_nil))) (tm_cons rfl (sm_sl rfl rfl (by decide) (by decide) (fun h => ⟨h, rfl⟩)) tm_nil))))) (hp_cons rfl rfl (sm_same rfl) (hp_cons rfl rfl (sm_same rfl) (hp_cons rfl rfl (sm_same rfl) (hp_cons rfl rfl (sm_arr fun i hi => ?_) hp_nil))))) ?_⟩
  · simp only [lay, blk0, rest]
    rw [if_neg (by omega), Nat.min_eq_left (by omega), Nat.zero_add, Nat.sub_zero]
    by_cases e : i < l.length % 136
    · rw [if_pos e, if_pos e]
    · rw [if_neg e, if_neg e]; rfl
  refine of_eq (sum_C9 ex l 0 _) ⟨(by first | omega | decide | (unfold I64; omega)), cut_ok (S2 := S_10 l) (ent_of [(2, 2), (3, 3), (4, 4), (20, 20)] rfl
    (tm_cons rfl (sm_ptr rfl) (tm_cons rfl (sm_ptr rfl) (tm_cons rfl (sm_fn (sms_cons (sm_ptr rfl) (sms_cons (sm_ptr rfl) sms_nil))) (tm_cons rfl (sm_sl rfl rfl (by decide) (by decide) (fun h => ⟨h, rfl⟩)) tm_nil)))) (hp_cons rfl rfl (sm_same rfl) (hp_cons rfl rfl (sm_same rfl) (hp_cons rfl rfl (sm_same rfl) (hp_cons rfl rfl (sm_arr fun i hi => ?_) hp_nil))))) ?_⟩
  · simp only [blk0, blk6]
    by_cases e : i = l.length % 136
    · rw [if_pos (by omega), if_neg (by omega), if_pos e]; rfl
    · rw [if_neg (by omega), if_neg e]
  refine of_eq (sum_C10 l 0 _) ⟨(by first | omega | decide | (unfold I64; omega)), (by first | omega | decide | (unfold I64; omega)), cut_ok (S2 := S_11 l) (ent_of [(2, 2), (3, 3), (4, 4), (20, 20)] rfl
    (tm_cons rfl (sm_ptr rfl) (tm_cons rfl (sm_ptr rfl) (tm_cons rfl (sm_fn (sms_cons (sm_ptr rfl) (sms_cons (sm_ptr rfl) sms_nil))) (tm_cons rfl (sm_sl rfl rfl (by decide) (by decide) (fun h => ⟨h, rfl⟩)) tm_nil)))) (hp_cons rfl rfl (sm_same rfl) (hp_cons rfl rfl (sm_same rfl) (hp_cons rfl rfl (sm_same rfl) (hp_cons rfl rfl (sm_arr fun i hi => ?_) hp_nil))))) ?_⟩
  · have h1 := last_lt hl 135 (by decide)
    rw [last_eq, if_pos rfl] at h1
    rw [wrap_u8, Nat.mod_eq_of_lt h1, last_eq]
    by_cases e : i = 135
    · subst e; rw [if_pos rfl, if_pos rfl]
    · rw [if_neg e, if_neg e]; rfl
  refine of_eq (sum_C11 l 0 _) ⟨mixs_fun (stN l (l.length / 136)) (lastBlk l) 136 (by decide) (stN_lt _) (last_lt hl), ?_⟩
  refine loop_inv (W := w_sum) ctx mixed ok_sum_1 (I_s1 l) (fun i => i ≤ 32) (fun i => 32 - i) 0 (by decide) ?_ fun i hi => ?_
  · exact ent_of [(2, 2), (4, 4), (7, 7)] rfl (tm_cons rfl (sm_ptr rfl) (tm_cons rfl (sm_ptr rfl) (tm_cons rfl (sm_ptr rfl) (tm_cons rfl (sm_same rfl) tm_nil)))) (hp_cons rfl rfl (sm_same rfl) (hp_cons rfl rfl (sm_same rfl) (hp_cons rfl rfl (sm_arr fun i _ => rfl) hp_nil)))
  refine of_eq (sum_L1 l i 0 _) ⟨fun h => ?_, fun h => ?_⟩
  · simp only [decide_eq_true_eq] at h
    refine ⟨(by first | omega | decide | (unfold I64; omega)), (by first | omega | decide | (unfold I64; omega)), (by first | omega | decide | (unfold I64; omega)), (by first | omega | decide | (unfold I64; omega)), (by first | omega | decide | (unfold I64; omega)), (by first | omega | decide | (unfold I64; omega)), (by first | omega | decide | (unfold I64; omega)), (by first | omega | decide | (unfold I64; omega)), round_end (i + 1) (by omega) (ent_of [(2, 2), (4, 4), (7, 7)] rfl (tm_cons rfl (sm_ptr rfl) (tm_cons rfl (sm_ptr rfl) (tm_cons rfl (sm_ptr rfl) (tm_cons rfl (sm_same rfl) tm_nil)))) (hp_cons rfl rfl (sm_same rfl) (hp_cons rfl rfl (sm_same rfl) (hp_cons rfl rfl (sm_arr fun j hj => ?_) hp_nil)))) (by dsimp only; omega)⟩
    rw [shr64 (endN l (i / 8)) _ (mixN_lt (stN_lt _) _ (by omega)), wrap_u8]
    dsimp only
    by_cases e : j = i
    · subst e; rw [if_pos rfl, if_pos (by omega)]; rfl
    · rw [if_neg e]
      by_cases e2 : j < i
      · rw [if_pos e2, if_pos (by omega)]
      · rw [if_neg e2, if_neg (by omega)]
  simp only [decide_eq_false_iff_not] at h
  obtain rfl : i = 32 := by omega
  refine ⟨⟨rfl, rfl, fun _ _ => ⟨rfl, rfl⟩⟩, post_cell rfl rfl (sm_arr fun j hj => ?_) rfl⟩
  rw [if_pos hj]
end Go.Bu.W

namespace Go.Bu.W
open Sp
def w_eight : Way := way [0, 2, 3, 4, 6] 18 []
def w_of : Way := way [0, 1, 4, 5, 7, 10, 11, 12, 13] 27 []
def I_e0 (n : Int) (j : Nat) : St := { tm := [(0, .i n), (3, .sl 0 [] 0 j j false 1), (4, .i (56 - 8 * (j : Int)))], hp := [(0, .c (ab j (eightN n)))], seen := [0] }
/-- The parts as data. -/
abbrev dp (ex : Bool) (exs : Nat → Bool) (ps : List (List Nat)) : AV := .dat ps.length ex 1 (fun i => .dat (ps.getD i []).length (exs i) 1 (rowL (ps.getD i [])))
def allN (tag : Nat) (ps : List (List Nat)) (i : Nat) : List Nat := ofBytes tag (ps.take i)
def I_o0 (tag : Nat) (ex : Bool) (exs : Nat → Bool) (ps : List (List Nat)) (i : Nat) : St := { tm := [(4, .ptr 4 []), (5, .sl 5 [] 0 (allN tag ps i).length (allN tag ps i).length false 1), (10, dp ex exs ps), (11, i64 ps.length), (12, i64 i)], hp := [(4, .c (zb 32)), (5, .c (.arr (allN tag ps i).length 1 (rowL (allN tag ps i))))], seen := [4, 5] }

theorem eight_A (n : Int) (K : Nat) (Φ : Ex → St → Prop) :
  (Holds C P 18 [] K Φ (vc C w_eight b_eight [] (start [.i n] []) lf)) =
  (LoopOK W.C W.P (18 : Nat) [] K (bodyAt b_eight [1, 1, 0, 1, 0]) (St.mk [((0 : Nat), (AV.v (Value.int IntKind.i64 n))), ((2 : Nat), (AV.dat (0 : Nat) true (0 : Nat) (fun (x : Nat) => (AV.v (Value.tuple (List.toArray [])))))), ((3 : Nat), (AV.dat (0 : Nat) true (0 : Nat) (fun (x : Nat) => (AV.v (Value.tuple (List.toArray [])))))), ((4 : Nat), (AV.v (Value.int IntKind.i64 (56 : Int))))] [] []) (fun (e : Ex) (S' : St) => Holds W.C W.P (18 : Nat) [] K Φ (after W.C w_eight b_eight [1, 1, 0, 1, 0] [] lf e S'))) := by kernel_rfl
noncomputable abbrev bd_eight_0 : Code := bodyAt (b_eight) [1, 1, 0, 1, 0]
theorem ok_eight_0 : codeOK bd_eight_0 = true := by kernel_rfl
noncomputable abbrev rest_eight_0 (K : Nat) (Φ : Ex → St → Prop) : Ex → St → Prop := fun e S' => Holds C P 18 [] K Φ (after C w_eight (b_eight) [1, 1, 0, 1, 0] [] lf e S')
theorem eight_L0 (n : Int) (j : Nat) (K : Nat) (Φ : Ex → St → Prop) :
  (Holds C P 18 [] K (RoundQ C 18 [] K (I_e0 n) (fun j => j ≤ 8) (fun j => 8 - j) ((fun j => 8 - j) (j)) (rest_eight_0 K Φ)) (vc C w_eight bd_eight_0 [] ((I_e0 n) (j)) lf)) =
  (((decide (((56 : Int) - (((8 * j) : Nat) : Int)) ≥ (0 : Int))) = true → 
 (((0 : Int) ≤ ((56 : Int) - (((8 * j) : Nat) : Int))) ∧
  ((((j + (1 : Nat)) * (1 : Nat)) ≤ (140737488355328 : Nat)) ∧
  ((I64 (((56 : Int) - (((8 * j) : Nat) : Int)) - (8 : Int))) ∧
  ((RoundQ C 18 [] K (I_e0 n) (fun j => j ≤ 8) (fun j => 8 - j) ((fun j => 8 - j) (j)) (rest_eight_0 K Φ)) Ex.normal (St.mk [((0 : Nat), (AV.v (Value.int IntKind.i64 n))), ((3 : Nat), (AV.sl (16 : Nat) [] (0 : Nat) (j + (1 : Nat)) (j + (1 : Nat)) false (1 : Nat))), ((4 : Nat), (AV.v (Value.int IntKind.i64 (((56 : Int) - (((8 * j) : Nat) : Int)) - (8 : Int))))), ((6 : Nat), (AV.v (Value.bool true)))] [((15 : Nat), (Blk.c (AV.st [(AV.v (Value.int IntKind.u8 (IntKind.wrap IntKind.u8 (bShr IntKind.u64 (IntKind.wrap IntKind.u64 n) ((56 : Int) - (((8 * j) : Nat) : Int))))))]))), ((16 : Nat), (Blk.c (AV.arr (j + (1 : Nat)) (1 : Nat) (cat j (fun (i : Nat) => (AV.v (Value.int IntKind.u8 (((Sp.eightN n ((0 : Nat) + i)) : Nat) : Int)))) (fun (i : Nat) => (nthD [(AV.v (Value.int IntKind.u8 (IntKind.wrap IntKind.u8 (bShr IntKind.u64 (IntKind.wrap IntKind.u64 n) ((56 : Int) - (((8 * j) : Nat) : Int))))))] ((0 : Nat) + i) (AV.v (Value.tuple (List.toArray [])))))))))] [(16 : Nat), (15 : Nat), (0 : Nat)])))))) ∧
 ((decide (((56 : Int) - (((8 * j) : Nat) : Int)) ≥ (0 : Int))) = false → 
 (Φ Ex.ret (St.mk [((0 : Nat), (AV.v (Value.int IntKind.i64 n))), ((2 : Nat), (AV.sl (0 : Nat) [] (0 : Nat) j j false (1 : Nat))), ((3 : Nat), (AV.sl (0 : Nat) [] (0 : Nat) j j false (1 : Nat))), ((4 : Nat), (AV.v (Value.int IntKind.i64 ((56 : Int) - (((8 * j) : Nat) : Int))))), ((6 : Nat), (AV.v (Value.bool false)))] [((0 : Nat), (Blk.c (AV.arr j (1 : Nat) (fun (i : Nat) => (AV.v (Value.int IntKind.u8 (((Sp.eightN n i) : Nat) : Int)))))))] [(0 : Nat)])))) := by kernel_rfl
theorem of_A (tag : Nat) (ex : Bool) (exs : Nat → Bool) (ps : List (List Nat)) (K : Nat) (Φ : Ex → St → Prop) :
  (Holds C P 27 [] K Φ (vc C w_of b_of [] (start [u8 tag, dp ex exs ps] []) lf)) =
  (LoopOK W.C W.P (27 : Nat) [] K (bodyAt b_of [1, 1, 0, 1, 0]) (St.mk [((0 : Nat), (AV.v (Value.int IntKind.u8 ((tag : Nat) : Int)))), ((1 : Nat), (AV.dat (List.length ps) ex (1 : Nat) (fun (i : Nat) => (AV.dat (List.length (List.getD ps i [])) (exs i) (1 : Nat) (rowL (List.getD ps i [])))))), ((4 : Nat), (AV.ptr (4 : Nat) [])), ((5 : Nat), (AV.sl (9 : Nat) [] (0 : Nat) (1 : Nat) (1 : Nat) true (1 : Nat))), ((10 : Nat), (AV.dat (List.length ps) ex (1 : Nat) (fun (i : Nat) => (AV.dat (List.length (List.getD ps i [])) (exs i) (1 : Nat) (rowL (List.getD ps i [])))))), ((11 : Nat), (AV.v (Value.int IntKind.i64 (((List.length ps) : Nat) : Int)))), ((12 : Nat), (AV.v (Value.int IntKind.i64 (0 : Int))))] [((4 : Nat), (Blk.c (AV.arr (32 : Nat) (1 : Nat) (fun (x : Nat) => (AV.v (Value.int IntKind.u8 (0 : Int))))))), ((9 : Nat), (Blk.c (AV.st [(AV.v (Value.int IntKind.u8 ((tag : Nat) : Int)))])))] [(9 : Nat), (4 : Nat)]) (fun (e : Ex) (S' : St) => Holds W.C W.P (27 : Nat) [] K Φ (after W.C w_of b_of [1, 1, 0, 1, 0] [] lf e S'))) := by kernel_rfl
noncomputable abbrev bd_of_0 : Code := bodyAt (b_of) [1, 1, 0, 1, 0]
theorem ok_of_0 : codeOK bd_of_0 = true := by kernel_rfl
noncomputable abbrev rest_of_0 (K : Nat) (Φ : Ex → St → Prop) : Ex → St → Prop := fun e S' => Holds C P 27 [] K Φ (after C w_of (b_of) [1, 1, 0, 1, 0] [] lf e S')
theorem of_L0 (tag : Nat) (ex : Bool) (exs : Nat → Bool) (ps : List (List Nat)) (i : Nat) (K : Nat) (Φ : Ex → St → Prop) :
  (Holds C P 27 [] K (RoundQ C 27 [] K (I_o0 tag ex exs ps) (fun i => i ≤ ps.length) (fun i => ps.length - i) ((fun i => ps.length - i) (i)) (rest_of_0 K Φ)) (vc C w_of bd_of_0 [] ((I_o0 tag ex exs ps) (i)) lf)) =
  (((decide (((i : Nat) : Int) < (((List.length ps) : Nat) : Int))) = true → 
 ((((0 : Int) ≤ ((i : Nat) : Int)) ∧ (((i : Nat) : Int) < (((List.length ps) : Nat) : Int))) ∧
  (Fun W.C W.P (33 : Nat) [(AV.v (Value.int IntKind.i64 (((List.length (List.getD ps i [])) : Nat) : Int)))] [] (AV.sl (0 : Nat) [] (0 : Nat) (8 : Nat) (8 : Nat) false (1 : Nat)) [((0 : Nat), (Blk.c (AV.arr (8 : Nat) (1 : Nat) (fun (i1 : Nat) => (AV.v (Value.int IntKind.u8 (((Sp.eightN (((List.length (List.getD ps i [])) : Nat) : Int) i1) : Nat) : Int)))))))] ∧
  (((((List.length (W.allN tag ps i)) + (8 : Nat)) * (1 : Nat)) ≤ (140737488355328 : Nat)) ∧
  ((((((List.length (W.allN tag ps i)) + (8 : Nat)) + (List.length (List.getD ps i []))) * (1 : Nat)) ≤ (140737488355328 : Nat)) ∧
  ((I64 (((i + 1) : Nat) : Int)) ∧
  ((RoundQ C 27 [] K (I_o0 tag ex exs ps) (fun i => i ≤ ps.length) (fun i => ps.length - i) ((fun i => ps.length - i) (i)) (rest_of_0 K Φ)) Ex.normal (St.mk [((4 : Nat), (AV.ptr (4 : Nat) [])), ((5 : Nat), (AV.sl (23 : Nat) [] (0 : Nat) (((List.length (W.allN tag ps i)) + (8 : Nat)) + (List.length (List.getD ps i []))) (((List.length (W.allN tag ps i)) + (8 : Nat)) + (List.length (List.getD ps i []))) false (1 : Nat))), ((7 : Nat), (AV.dat (List.length (List.getD ps i [])) (exs i) (1 : Nat) (rowL (List.getD ps i [])))), ((10 : Nat), (AV.dat (List.length ps) ex (1 : Nat) (fun (i1 : Nat) => (AV.dat (List.length (List.getD ps i1 [])) (exs i1) (1 : Nat) (rowL (List.getD ps i1 [])))))), ((11 : Nat), (AV.v (Value.int IntKind.i64 (((List.length ps) : Nat) : Int)))), ((12 : Nat), (AV.v (Value.int IntKind.i64 (((i + 1) : Nat) : Int)))), ((13 : Nat), (AV.v (Value.bool true)))] [((4 : Nat), (Blk.c (AV.arr (32 : Nat) (1 : Nat) (fun (x : Nat) => (AV.v (Value.int IntKind.u8 (0 : Int))))))), ((19 : Nat), (Blk.c (AV.arr (8 : Nat) (1 : Nat) (fun (i1 : Nat) => (AV.v (Value.int IntKind.u8 (((Sp.eightN (((List.length (List.getD ps i [])) : Nat) : Int) i1) : Nat) : Int))))))), ((23 : Nat), (Blk.c (AV.arr (((List.length (W.allN tag ps i)) + (8 : Nat)) + (List.length (List.getD ps i []))) (1 : Nat) (cat ((List.length (W.allN tag ps i)) + (8 : Nat)) (fun (i1 : Nat) => (cat (List.length (W.allN tag ps i)) (fun (i2 : Nat) => (AV.v (Value.int IntKind.u8 (((List.getD (W.allN tag ps i) ((0 : Nat) + i2) (0 : Nat)) : Nat) : Int)))) (fun (i2 : Nat) => (AV.v (Value.int IntKind.u8 (((Sp.eightN (((List.length (List.getD ps i [])) : Nat) : Int) ((0 : Nat) + i2)) : Nat) : Int)))) ((0 : Nat) + i1))) (rowL (List.getD ps i []))))))] [(23 : Nat), (20 : Nat), (19 : Nat), (4 : Nat), (5 : Nat)])))))))) ∧
 ((decide (((i : Nat) : Int) < (((List.length ps) : Nat) : Int))) = false → 
 (Fun W.C W.P (41 : Nat) [(AV.dat (List.length (W.allN tag ps i)) false (1 : Nat) (fun (i1 : Nat) => (AV.v (Value.int IntKind.u8 (((List.getD (W.allN tag ps i) ((0 : Nat) + i1) (0 : Nat)) : Nat) : Int)))))] [] (AV.arr (32 : Nat) (1 : Nat) (fun (i1 : Nat) => (AV.v (Value.int IntKind.u8 (((Sp.sumN (bytesL (List.length (W.allN tag ps i)) (fun (i2 : Nat) => (AV.v (Value.int IntKind.u8 (((List.getD (W.allN tag ps i) ((0 : Nat) + i2) (0 : Nat)) : Nat) : Int))))) i1) : Nat) : Int))))) [] ∧
  ((∀ (i1 : Nat), ((i1 < (32 : Nat)) → True)) ∧
  ((((32 : Nat) = (32 : Nat)) ∧ (((1 : Nat) = (1 : Nat)) ∧ (∀ (i1 : Nat), ((i1 < (32 : Nat)) → ((true = true) ∧ (Bool.true = true)))))) ∧
  (Φ Ex.ret (St.mk [((4 : Nat), (AV.ptr (4 : Nat) [])), ((5 : Nat), (AV.sl (5 : Nat) [] (0 : Nat) (List.length (W.allN tag ps i)) (List.length (W.allN tag ps i)) false (1 : Nat))), ((10 : Nat), (AV.dat (List.length ps) ex (1 : Nat) (fun (i1 : Nat) => (AV.dat (List.length (List.getD ps i1 [])) (exs i1) (1 : Nat) (rowL (List.getD ps i1 [])))))), ((11 : Nat), (AV.v (Value.int IntKind.i64 (((List.length ps) : Nat) : Int)))), ((12 : Nat), (AV.v (Value.int IntKind.i64 ((i : Nat) : Int)))), ((13 : Nat), (AV.v (Value.bool false)))] [((4 : Nat), (Blk.c (AV.arr (32 : Nat) (1 : Nat) (fun (i1 : Nat) => (AV.v (Value.int IntKind.u8 (((Sp.sumN (bytesL (List.length (W.allN tag ps i)) (fun (i2 : Nat) => (AV.v (Value.int IntKind.u8 (((List.getD (W.allN tag ps i) ((0 : Nat) + i2) (0 : Nat)) : Nat) : Int))))) i1) : Nat) : Int))))))), ((5 : Nat), (Blk.c (AV.arr (List.length (W.allN tag ps i)) (1 : Nat) (rowL (W.allN tag ps i)))))] [(4 : Nat), (5 : Nat)]))))))) := by kernel_rfl

theorem eight_val (n : Int) (hn : I64 n) (j : Nat) (hj : j < 8) : IntKind.wrap IntKind.u8 (bShr IntKind.u64 (IntKind.wrap IntKind.u64 n) ((56 : Int) - ((8 * j : Nat) : Int))) = ((eightN n j : Nat) : Int) := by
  have h0 : 0 ≤ n % 18446744073709551616 := Int.emod_nonneg _ (by decide)
  have e1 : IntKind.wrap IntKind.u64 n = (((n % 18446744073709551616).toNat : Nat) : Int) := by
    rw [Int.toNat_of_nonneg h0]
    simp [IntKind.wrap, IntKind.bits, IntKind.signed]
  rw [e1, show (56 : Int) - ((8 * j : Nat) : Int) = ((56 - 8 * j : Nat) : Int) by omega, shr64 _ _ (by omega), wrap_u8]
  rfl

theorem eight_fun (n : Int) (hn : I64 n) : Fun C P F_eight [.i n] [] (.sl 0 [] 0 8 8 false 1) [(0, .c (ab 8 (eightN n)))] := by
  refine in_eight (W := w_eight) rfl 0 (by simp) rfl (fun id h => absurd rfl h) ?_
  refine of_eq (eight_A n 0 _) ?_
  refine loop_inv (W := w_eight) ctx mixed ok_eight_0 (I_e0 n) (fun j => j ≤ 8) (fun j => 8 - j) 0 (by decide) ?_ fun j hj => ?_
  · exact ent_of [] rfl (tm_cons rfl (sm_same rfl) (tm_cons rfl (sm_nil rfl rfl) (tm_cons rfl (sm_same rfl) tm_nil))) (hp_new rfl rfl hp_nil)
  refine of_eq (eight_L0 n j 0 _) ⟨fun h => ?_, fun h => ?_⟩
  · simp only [ge_iff_le, decide_eq_true_eq] at h
    have hj8 : j < 8 := by omega
    rw [eight_val n hn j hj8]
    refine ⟨(by first | omega | decide | (unfold I64; omega)), (by first | omega | decide | (unfold I64; omega)), (by first | omega | decide | (unfold I64; omega)), round_end (j + 1) (by omega) (ent_of [(16, 0)] rfl (tm_cons rfl (sm_same rfl) (tm_cons rfl (sm_sl rfl rfl (Nat.le_refl _) (Nat.le_refl _) (by simp)) (tm_cons rfl (sm_int (by omega)) tm_nil))) (hp_cons rfl rfl (sm_arr fun i hi => ?_) hp_nil)) (by dsimp only; omega)⟩
    unfold cat
    by_cases e : i < j
    · rw [if_pos e]; simp only [Nat.zero_add]
    · have e2 : i = j := by omega
      subst e2
      rw [if_neg e]
      simp only [Nat.sub_self]
      rfl
  · simp only [ge_iff_le, decide_eq_false_iff_not] at h
    obtain rfl : j = 8 := by omega
    exact funPost_of (S2 := { tm := [(2, .sl 0 [] 0 8 8 false 1)], hp := [(0, .c (ab 8 (eightN n)))], seen := [0] }) (by simp) (ent_of [(0, 0)] rfl (tm_cons rfl (sm_sl rfl rfl (Nat.le_refl _) (Nat.le_refl _) (by simp)) tm_nil) (hp_cons rfl rfl (sm_same rfl) hp_nil)) rfl
      (.inr ⟨rfl, rfl, rfl, rfl, by decide, by decide, by simp, rfl⟩) fun _ _ h => h

theorem allN_succ (tag : Nat) (ps : List (List Nat)) (i : Nat) (hi : i < ps.length) : allN tag ps (i + 1) = allN tag ps i ++ (eightL (ps.getD i []).length ++ ps.getD i []) := by
  have e : ps[i]? = some (ps.getD i []) := by rw [List.getD_eq_getElem?_getD, List.getElem?_eq_getElem hi]; rfl
  unfold allN ofBytes
  rw [List.take_add_one, e]
  simp [List.flatMap_append]
theorem allN_le (tag : Nat) (ps : List (List Nat)) : ∀ i, i ≤ ps.length → (allN tag ps i).length ≤ (allN tag ps ps.length).length := by
  have key : ∀ d i, i + d = ps.length → (allN tag ps i).length ≤ (allN tag ps ps.length).length := by
    intro d
    induction d with
    | zero => intro i h; rw [show i = ps.length by omega]; exact Nat.le_refl _
    | succ d ih =>
      intro i h
      refine Nat.le_trans ?_ (ih (i + 1) (by omega))
      rw [allN_succ tag ps i (by omega), List.length_append]
      omega
  intro i hi
  exact key (ps.length - i) i (by omega)
theorem allN_all (tag : Nat) (ps : List (List Nat)) : allN tag ps ps.length = ofBytes tag ps := by simp [allN]
theorem small_eight (n : Int) : Small (eightL n) := fun x hx => by
  obtain ⟨i, _, rfl⟩ := List.mem_map.1 hx
  exact eightN_lt n i
theorem small_ofBytes {tag : Nat} {ps : List (List Nat)} (ht : tag < 256) (hp : ∀ p ∈ ps, Small p) : Small (ofBytes tag ps) := by
  refine small_cons ht fun x hx => ?_
  obtain ⟨p, h1, h2⟩ := List.mem_flatMap.1 hx
  exact small_append (small_eight _) (hp p h1) x h2

theorem sum_call {n e : Nat} {ex : Bool} {f : Nat → AV} (hb : B8 n f) (he : n = 0 ∨ e = 1) (hn : n < 2 ^ 62) : Fun C P F_sum [.dat n ex e f] [] (sumAV (bytesL n f)) [] := by
  have h := sum_fun ex (bytesL n f) (small_bytesL hb) (by rw [bytesL_len]; exact hn)
  refine h.sim ⟨.inr ⟨(bytesL_len n f).symm, id, he, fun i hi => .inl (row_bytesL hb i hi)⟩, trivial⟩ trivial

theorem of_fun (tag : Nat) (ex : Bool) (exs : Nat → Bool) (ps : List (List Nat)) (ht : tag < 256) (hp : ∀ p ∈ ps, Small p) (hn : (ofBytes tag ps).length < 2 ^ 46) :
    Fun C P F_of [u8 tag, dp ex exs ps] [] (sumAV (ofBytes tag ps)) [] := by
  have hle := allN_le tag ps
  rw [allN_all] at hle
  have hps : ps.length < 2 ^ 46 := by
    have : ∀ qs : List (List Nat), qs.length ≤ (qs.flatMap fun p => eightL p.length ++ p).length := by
      intro qs
      induction qs with
      | nil => simp
      | cons q r ih => simp [eightL] at ih ⊢; omega
    have h1 := this ps
    simp only [ofBytes, List.length_cons] at hn
    omega
  refine in_of (W := w_of) rfl 0 (by simp) rfl (fun id h => absurd rfl h) ?_
  refine of_eq (of_A tag ex exs ps 0 _) ?_
  refine loop_inv (W := w_of) ctx mixed ok_of_0 (I_o0 tag ex exs ps) (fun i => i ≤ ps.length) (fun i => ps.length - i) 0 (Nat.zero_le _) ?_ fun i hi => ?_
  · refine ent_of [(4, 4), (9, 5)] rfl (tm_cons rfl (sm_ptr rfl) (tm_cons rfl (sm_sl rfl rfl (Nat.le_refl _) (Nat.le_refl _) (by simp)) (tm_cons rfl (sm_same rfl) (tm_cons rfl (sm_same rfl) (tm_cons rfl (sm_same rfl) tm_nil))))) (hp_cons rfl rfl (sm_same rfl) (hp_cons rfl rfl (sm_row rfl rfl rfl fun i x hx => ?_) hp_nil))
    cases i with
    | zero => cases hx; rfl
    | succ i => cases i <;> cases hx
  refine of_eq (of_L0 tag ex exs ps i 0 _) ⟨fun h => ?_, fun h => ?_⟩
  · simp only [decide_eq_true_eq] at h
    have hi' : i < ps.length := by omega
    have h1 := hle (i + 1) (by omega)
    have hs := allN_succ tag ps i hi'
    rw [hs] at h1
    simp only [List.length_append, eightL, List.length_map, List.length_range] at h1
    refine ⟨(by first | omega | decide | (unfold I64; omega)), eight_fun _ (by first | omega | decide | (unfold I64; omega)), (by first | omega | decide | (unfold I64; omega)), (by first | omega | decide | (unfold I64; omega)), (by first | omega | decide | (unfold I64; omega)), round_end (i + 1) (by omega) (ent_of [(4, 4), (23, 5)] rfl (tm_cons rfl (sm_ptr rfl) (tm_cons rfl (sm_sl rfl ?_ ?_ ?_ (by simp)) (tm_cons rfl (sm_same rfl) (tm_cons rfl (sm_same rfl) (tm_cons rfl (sm_same rfl) tm_nil))))) (hp_cons rfl rfl (sm_same rfl) (hp_cons rfl rfl (sm_arr' ?_ fun j hj => ?_) hp_nil))) (by dsimp only; omega)⟩
    · rw [hs]; simp [eightL]; omega
    · rw [hs]; simp [eightL]; omega
    · rw [hs]; simp [eightL]; omega
    · rw [hs]; simp [eightL]; omega
    · show _ = rowL (allN tag ps (i + 1)) j
      rw [hs, ← List.append_assoc]
      refine cat_rows (by simp [eightL]) (fun k hk => ?_) rfl (fun k hk => rfl) j hj
      rw [Nat.zero_add]
      refine cat_rows rfl (fun q _ => by rw [Nat.zero_add]) (by simp [eightL]) (fun q hq => ?_) k hk
      rw [Nat.zero_add]
      simp [eightL, List.getD_eq_getElem?_getD, hq]
  simp only [decide_eq_false_iff_not] at h
  obtain rfl : i = ps.length := by omega
  rw [allN_all]
  have hb : B8 (ofBytes tag ps).length (fun i1 => u8 ((ofBytes tag ps).getD (0 + i1) 0)) := fun i _ => ⟨rfl, getD_small (small_ofBytes ht hp) _⟩
  have hl : bytesL (ofBytes tag ps).length (fun i1 => u8 ((ofBytes tag ps).getD (0 + i1) 0)) = ofBytes tag ps := bytesL_of rfl fun i _ => by rw [Nat.zero_add]
  have hs := sum_call (ex := false) hb (.inr rfl) (by omega)
  rw [hl] at hs ⊢
  exact ⟨hs, fun _ _ => trivial, ⟨rfl, rfl, fun _ _ => ⟨rfl, rfl⟩⟩, post_cell rfl rfl (sm_same rfl) rfl⟩

/-- The parts as they come. -/
def Parts (n : Nat) (f : Nat → AV) : Prop := ∀ i, i < n → ∃ m ex e g, f i = .dat m ex e g ∧ (m = 0 ∨ e = 1) ∧ B8 m g
theorem of_call {tag n e : Nat} {ex : Bool} {f : Nat → AV} (ht : tag < 256) (hf : Parts n f) (he : n = 0 ∨ e = 1) (hn : (ofBytes tag (partsL n f)).length < 2 ^ 46) : Fun C P F_of [u8 tag, .dat n ex e f] [] (sumAV (ofBytes tag (partsL n f))) [] := by
  have hlen : (partsL n f).length = n := by simp [partsL]
  have hget : ∀ i, i < n → (partsL n f).getD i [] = datL (f i) := fun i hi => by simp [partsL, List.getD_eq_getElem?_getD, hi]
  have hp : ∀ p ∈ partsL n f, Small p := fun p hp => by
    obtain ⟨i, hi, rfl⟩ := List.mem_map.1 hp
    obtain ⟨m, ex, e, g, h1, h2, h3⟩ := hf i (List.mem_range.1 hi)
    rw [h1]; exact small_bytesL h3
  have h := of_fun tag ex (fun i => match f i with | .dat _ x _ _ => x | _ => false) (partsL n f) ht hp hn
  refine h.sim ⟨sm_same rfl, .inr ⟨hlen.symm, id, he, fun i hi => .inr ?_⟩, trivial⟩ trivial
  obtain ⟨m, x, e', g, h1, h2, h3⟩ := hf i hi
  dsimp only
  rw [hget i hi, h1]
  exact ⟨(bytesL_len m g).symm, id, h2, fun j hj => .inl (row_bytesL h3 j hj)⟩
end Go.Bu.W

namespace Go.Bu.W
open Sp
def w_stream : Way := way [0, 1, 2, 3, 6, 7, 8, 9, 13] 32 []
def LN (n : Int) (i : Nat) : Nat := min (32 * i) n.toNat
def I_t0 (key : List Nat) (id n : Int) (i : Nat) : St := { tm := [(1, .i id), (2, .i n), (3, .ptr 3 []), (7, .sl 7 [] 0 (LN n i) (LN n i) false 1), (8, i64 i)], hp := [(3, .c (.arr 32 1 (rowL key))), (7, .c (.arr (LN n i) 1 (rowL (streamL key id (LN n i)))))], seen := [3, 7] }

theorem stream_A (key : List Nat) (id n : Int) (K : Nat) (Φ : Ex → St → Prop) :
  (Holds C P 32 [] K Φ (vc C w_stream b_stream [] (start [.arr 32 1 (rowL key), .i id, .i n] []) lf)) =
  (LoopOK W.C W.P (32 : Nat) [] K (bodyAt b_stream [1, 1, 0, 1, 0]) (St.mk [((0 : Nat), (AV.arr (32 : Nat) (1 : Nat) (rowL key))), ((1 : Nat), (AV.v (Value.int IntKind.i64 id))), ((2 : Nat), (AV.v (Value.int IntKind.i64 n))), ((3 : Nat), (AV.ptr (3 : Nat) [])), ((6 : Nat), (AV.dat (0 : Nat) true (0 : Nat) (fun (x : Nat) => (AV.v (Value.tuple (List.toArray [])))))), ((7 : Nat), (AV.dat (0 : Nat) true (0 : Nat) (fun (x : Nat) => (AV.v (Value.tuple (List.toArray [])))))), ((8 : Nat), (AV.v (Value.int IntKind.i64 (0 : Int))))] [((3 : Nat), (Blk.c (AV.arr (32 : Nat) (1 : Nat) (rowL key))))] [(3 : Nat)]) (fun (e : Ex) (S' : St) => Holds W.C W.P (32 : Nat) [] K Φ (after W.C w_stream b_stream [1, 1, 0, 1, 0] [] lf e S'))) := by kernel_rfl
noncomputable abbrev bd_stream_0 : Code := bodyAt (b_stream) [1, 1, 0, 1, 0]
theorem ok_stream_0 : codeOK bd_stream_0 = true := by kernel_rfl
noncomputable abbrev rest_stream_0 (K : Nat) (Φ : Ex → St → Prop) : Ex → St → Prop := fun e S' => Holds C P 32 [] K Φ (after C w_stream (b_stream) [1, 1, 0, 1, 0] [] lf e S')
theorem stream_L0 (key : List Nat) (id n : Int) (i : Nat) (K : Nat) (Φ : Ex → St → Prop) :
  (Holds C P 32 [] K (RoundQ C 32 [] K (I_t0 key id n) (fun i => 32 * i ≤ n.toNat + 31) (fun i => n.toNat + 31 - 32 * i) ((fun i => n.toNat + 31 - 32 * i) (i)) (rest_stream_0 K Φ)) (vc C w_stream bd_stream_0 [] ((I_t0 key id n) (i)) lf)) =
  (((decide ((((W.LN n i) : Nat) : Int) < n)) = true → 
 ((((0 : Int) ≤ (0 : Int)) ∧ (((0 : Int) ≤ (32 : Int)) ∧ ((32 : Int) ≤ (32 : Int)))) ∧
  (Fun W.C W.P (33 : Nat) [(AV.v (Value.int IntKind.i64 id))] [] (AV.sl (0 : Nat) [] (0 : Nat) (8 : Nat) (8 : Nat) false (1 : Nat)) [((0 : Nat), (Blk.c (AV.arr (8 : Nat) (1 : Nat) (fun (i1 : Nat) => (AV.v (Value.int IntKind.u8 (((Sp.eightN id i1) : Nat) : Int)))))))] ∧
  (Fun W.C W.P (33 : Nat) [(AV.v (Value.int IntKind.i64 ((i : Nat) : Int)))] [] (AV.sl (0 : Nat) [] (0 : Nat) (8 : Nat) (8 : Nat) false (1 : Nat)) [((0 : Nat), (Blk.c (AV.arr (8 : Nat) (1 : Nat) (fun (i1 : Nat) => (AV.v (Value.int IntKind.u8 (((Sp.eightN ((i : Nat) : Int) i1) : Nat) : Int)))))))] ∧
  (Fun W.C W.P (32 : Nat) [(AV.v (Value.int IntKind.u8 (83 : Int))), (AV.dat (3 : Nat) false (1 : Nat) (fun (i1 : Nat) => (nthD [(AV.dat (32 : Nat) false (1 : Nat) (fun (i2 : Nat) => (AV.v (Value.int IntKind.u8 (((List.getD key ((0 : Nat) + i2) (0 : Nat)) : Nat) : Int))))), (AV.dat (8 : Nat) false (1 : Nat) (fun (i2 : Nat) => (AV.v (Value.int IntKind.u8 (((Sp.eightN id ((0 : Nat) + i2)) : Nat) : Int))))), (AV.dat (8 : Nat) false (1 : Nat) (fun (i2 : Nat) => (AV.v (Value.int IntKind.u8 (((Sp.eightN ((i : Nat) : Int) ((0 : Nat) + i2)) : Nat) : Int)))))] ((0 : Nat) + i1) (AV.v (Value.tuple (List.toArray []))))))] [] (AV.arr (32 : Nat) (1 : Nat) (fun (i1 : Nat) => (AV.v (Value.int IntKind.u8 (((Sp.sumN (Sp.ofBytes (83 : Nat) (partsL (3 : Nat) (fun (i2 : Nat) => (nthD [(AV.dat (32 : Nat) false (1 : Nat) (fun (i3 : Nat) => (AV.v (Value.int IntKind.u8 (((List.getD key ((0 : Nat) + i3) (0 : Nat)) : Nat) : Int))))), (AV.dat (8 : Nat) false (1 : Nat) (fun (i3 : Nat) => (AV.v (Value.int IntKind.u8 (((Sp.eightN id ((0 : Nat) + i3)) : Nat) : Int))))), (AV.dat (8 : Nat) false (1 : Nat) (fun (i3 : Nat) => (AV.v (Value.int IntKind.u8 (((Sp.eightN ((i : Nat) : Int) ((0 : Nat) + i3)) : Nat) : Int)))))] ((0 : Nat) + i2) (AV.v (Value.tuple (List.toArray []))))))) i1) : Nat) : Int))))) [] ∧
  ((∀ (i1 : Nat), ((i1 < (32 : Nat)) → True)) ∧
  ((((32 : Nat) = (32 : Nat)) ∧ (((1 : Nat) = (1 : Nat)) ∧ (∀ (i1 : Nat), ((i1 < (32 : Nat)) → ((true = true) ∧ (Bool.true = true)))))) ∧
  ((I64 (n - (((W.LN n i) : Nat) : Int))) ∧
  ((((0 : Int) ≤ (0 : Int)) ∧ (((0 : Int) ≤ (Min.min (32 : Int) (n - (((W.LN n i) : Nat) : Int)))) ∧ ((Min.min (32 : Int) (n - (((W.LN n i) : Nat) : Int))) ≤ (32 : Int)))) ∧
  (((((W.LN n i) + (Int.toNat (Min.min (32 : Int) (n - (((W.LN n i) : Nat) : Int))))) * (1 : Nat)) ≤ (140737488355328 : Nat)) ∧
  ((I64 (((i + 1) : Nat) : Int)) ∧
  ((RoundQ C 32 [] K (I_t0 key id n) (fun i => 32 * i ≤ n.toNat + 31) (fun i => n.toNat + 31 - 32 * i) ((fun i => n.toNat + 31 - 32 * i) (i)) (rest_stream_0 K Φ)) Ex.normal (St.mk [((1 : Nat), (AV.v (Value.int IntKind.i64 id))), ((2 : Nat), (AV.v (Value.int IntKind.i64 n))), ((3 : Nat), (AV.ptr (3 : Nat) [])), ((7 : Nat), (AV.sl (30 : Nat) [] (0 : Nat) ((W.LN n i) + (Int.toNat (Min.min (32 : Int) (n - (((W.LN n i) : Nat) : Int))))) ((W.LN n i) + (Int.toNat (Min.min (32 : Int) (n - (((W.LN n i) : Nat) : Int))))) false (1 : Nat))), ((8 : Nat), (AV.v (Value.int IntKind.i64 (((i + 1) : Nat) : Int)))), ((9 : Nat), (AV.ptr (9 : Nat) [])), ((13 : Nat), (AV.v (Value.bool true)))] [((3 : Nat), (Blk.c (AV.arr (32 : Nat) (1 : Nat) (rowL key)))), ((9 : Nat), (Blk.c (AV.arr (32 : Nat) (1 : Nat) (fun (i1 : Nat) => (AV.v (Value.int IntKind.u8 (((Sp.sumN (Sp.ofBytes (83 : Nat) (partsL (3 : Nat) (fun (i2 : Nat) => (nthD [(AV.dat (32 : Nat) false (1 : Nat) (fun (i3 : Nat) => (AV.v (Value.int IntKind.u8 (((List.getD key ((0 : Nat) + i3) (0 : Nat)) : Nat) : Int))))), (AV.dat (8 : Nat) false (1 : Nat) (fun (i3 : Nat) => (AV.v (Value.int IntKind.u8 (((Sp.eightN id ((0 : Nat) + i3)) : Nat) : Int))))), (AV.dat (8 : Nat) false (1 : Nat) (fun (i3 : Nat) => (AV.v (Value.int IntKind.u8 (((Sp.eightN ((i : Nat) : Int) ((0 : Nat) + i3)) : Nat) : Int)))))] ((0 : Nat) + i2) (AV.v (Value.tuple (List.toArray []))))))) i1) : Nat) : Int))))))), ((18 : Nat), (Blk.c (AV.arr (8 : Nat) (1 : Nat) (fun (i1 : Nat) => (AV.v (Value.int IntKind.u8 (((Sp.eightN id i1) : Nat) : Int))))))), ((20 : Nat), (Blk.c (AV.arr (8 : Nat) (1 : Nat) (fun (i1 : Nat) => (AV.v (Value.int IntKind.u8 (((Sp.eightN ((i : Nat) : Int) i1) : Nat) : Int))))))), ((21 : Nat), (Blk.c (AV.st [(AV.sl (3 : Nat) [] (0 : Nat) (32 : Nat) (32 : Nat) true (1 : Nat)), (AV.sl (18 : Nat) [] (0 : Nat) (8 : Nat) (8 : Nat) false (1 : Nat)), (AV.sl (20 : Nat) [] (0 : Nat) (8 : Nat) (8 : Nat) false (1 : Nat))]))), ((30 : Nat), (Blk.c (AV.arr ((W.LN n i) + (Int.toNat (Min.min (32 : Int) (n - (((W.LN n i) : Nat) : Int))))) (1 : Nat) (cat (W.LN n i) (fun (i1 : Nat) => (AV.v (Value.int IntKind.u8 (((List.getD (Sp.streamL key id (W.LN n i)) ((0 : Nat) + i1) (0 : Nat)) : Nat) : Int)))) (fun (i1 : Nat) => (AV.v (Value.int IntKind.u8 (((Sp.sumN (Sp.ofBytes (83 : Nat) (partsL (3 : Nat) (fun (i2 : Nat) => (nthD [(AV.dat (32 : Nat) false (1 : Nat) (fun (i3 : Nat) => (AV.v (Value.int IntKind.u8 (((List.getD key ((0 : Nat) + i3) (0 : Nat)) : Nat) : Int))))), (AV.dat (8 : Nat) false (1 : Nat) (fun (i3 : Nat) => (AV.v (Value.int IntKind.u8 (((Sp.eightN id ((0 : Nat) + i3)) : Nat) : Int))))), (AV.dat (8 : Nat) false (1 : Nat) (fun (i3 : Nat) => (AV.v (Value.int IntKind.u8 (((Sp.eightN ((i : Nat) : Int) ((0 : Nat) + i3)) : Nat) : Int)))))] ((0 : Nat) + i2) (AV.v (Value.tuple (List.toArray []))))))) ((0 : Nat) + i1)) : Nat) : Int))))))))] [(30 : Nat), (9 : Nat), (21 : Nat), (20 : Nat), (18 : Nat), (3 : Nat), (7 : Nat)]))))))))))))) ∧
 ((decide ((((W.LN n i) : Nat) : Int) < n)) = false → 
 (Φ Ex.ret (St.mk [((1 : Nat), (AV.v (Value.int IntKind.i64 id))), ((2 : Nat), (AV.v (Value.int IntKind.i64 n))), ((3 : Nat), (AV.ptr (3 : Nat) [])), ((6 : Nat), (AV.sl (7 : Nat) [] (0 : Nat) (W.LN n i) (W.LN n i) false (1 : Nat))), ((7 : Nat), (AV.sl (7 : Nat) [] (0 : Nat) (W.LN n i) (W.LN n i) false (1 : Nat))), ((8 : Nat), (AV.v (Value.int IntKind.i64 ((i : Nat) : Int)))), ((13 : Nat), (AV.v (Value.bool false)))] [((3 : Nat), (Blk.c (AV.arr (32 : Nat) (1 : Nat) (rowL key)))), ((7 : Nat), (Blk.c (AV.arr (W.LN n i) (1 : Nat) (rowL (Sp.streamL key id (W.LN n i))))))] [(3 : Nat), (7 : Nat)])))) := by kernel_rfl

theorem streamL_len (key : List Nat) (id : Int) (n : Nat) : (streamL key id n).length = n := by simp [streamL]
theorem streamL_get (key : List Nat) (id : Int) {n k : Nat} (h : k < n) : (streamL key id n).getD k 0 = (blockL key id (k / 32)).getD (k % 32) 0 := by
  simp [streamL, List.getD_eq_getElem?_getD, h]
theorem sumL_get (l : List Nat) {k : Nat} (h : k < 32) : (sumL l).getD k 0 = sumN l k := by
  simp [sumL, List.getD_eq_getElem?_getD, h]
theorem eightL_of {f : Nat → AV} {n : Int} (h : ∀ i, i < 8 → f i = u8 (eightN n i)) : bytesL 8 f = eightL n := by
  rw [bytesL_nat (g := eightN n) (k := .u8) h]; rfl
theorem nthD3 {α : Type} (x y z d : α) (i : Nat) (h : i < 3) : nthD [x, y, z] (0 + i) d = if i = 0 then x else if i = 1 then y else z := by
  rw [Nat.zero_add]
  match i, h with
  | 0, _ => rfl
  | 1, _ => rfl
  | 2, _ => rfl
theorem parts3 {f : Nat → AV} {a b c : AV} {x y z : List Nat} (hf : ∀ i, i < 3 → f i = if i = 0 then a else if i = 1 then b else c) (ha : datL a = x) (hb : datL b = y) (hc : datL c = z) : partsL 3 f = [x, y, z] := by
  show [datL (f 0), datL (f 1), datL (f 2)] = _
  rw [hf 0 (by decide), hf 1 (by decide), hf 2 (by decide), ← ha, ← hb, ← hc]
  rfl

theorem stream_fun (key : List Nat) (id n : Int) (hk : key.length = 32) (hs : Small key) (hid : I64 id) (hn : n.toNat < 2 ^ 40) :
    Fun C P F_stream [.arr 32 1 (rowL key), .i id, .i n] [] (.sl 0 [] 0 n.toNat n.toNat false 1) [(0, .c (ab n.toNat (streamN key id n.toNat)))] := by
  refine in_stream (W := w_stream) rfl 0 (by simp) rfl (fun id h => absurd rfl h) ?_
  refine of_eq (stream_A key id n 0 _) ?_
  refine loop_inv (W := w_stream) ctx mixed ok_stream_0 (I_t0 key id n) (fun i => 32 * i ≤ n.toNat + 31) (fun i => n.toNat + 31 - 32 * i) 0 (by omega) ?_ fun i hi => ?_
  · exact ent_of [(3, 3)] rfl (tm_cons rfl (sm_same rfl) (tm_cons rfl (sm_same rfl) (tm_cons rfl (sm_ptr rfl) (tm_cons rfl (sm_nil (by simp [LN]) (by simp [LN])) (tm_cons rfl (sm_same rfl) tm_nil))))) (hp_cons rfl rfl (sm_same rfl) (hp_new rfl (by simp [LN]) hp_nil))
  refine of_eq (stream_L0 key id n i 0 _) ⟨fun h => ?_, fun h => ?_⟩
  · simp only [decide_eq_true_eq] at h
    have hL : LN n i = 32 * i := by unfold LN at h ⊢; omega
    have hp3 : ∀ x y z, x = AV.dat 32 false 1 (fun i3 => u8 (key.getD (0 + i3) 0)) → y = AV.dat 8 false 1 (fun i3 => u8 (eightN id (0 + i3))) → z = AV.dat 8 false 1 (fun i3 => u8 (eightN (i : Int) (0 + i3))) →
        partsL 3 (fun i2 => nthD [x, y, z] (0 + i2) (.v (.tuple (List.toArray [])))) = [key, eightL id, eightL i] := by
      intro x y z hx hy hz
      refine parts3 (fun j hj => nthD3 x y z _ j hj) ?_ ?_ ?_
      · rw [hx]; exact bytesL_of hk.symm fun j _ => by rw [Nat.zero_add]
      · rw [hy]; exact eightL_of fun j _ => by rw [Nat.zero_add]
      · rw [hz]; exact eightL_of fun j _ => by rw [Nat.zero_add]
    have hp3' := hp3 _ _ _ rfl rfl rfl
    rw [hp3']
    obtain ⟨c, hc⟩ : ∃ c : Nat, min (32 : Int) (n - ((LN n i : Nat) : Int)) = (c : Int) := ⟨(min (32 : Int) (n - ((LN n i : Nat) : Int))).toNat, by omega⟩
    rw [hc]
    have hL' : LN n (i + 1) = LN n i + c := by unfold LN at h hc ⊢; omega
    have hNn : n.toNat = n := by omega
    have hpa : Parts 3 (fun i1 => nthD [AV.dat 32 false 1 (fun i2 => u8 (key.getD (0 + i2) 0)), AV.dat 8 false 1 (fun i2 => u8 (eightN id (0 + i2))), AV.dat 8 false 1 (fun i2 => u8 (eightN (i : Int) (0 + i2)))] (0 + i1) (.v (.tuple (List.toArray [])))) := by
      intro j hj
      match j, hj with
      | 0, _ => exact ⟨_, _, _, _, rfl, .inr rfl, fun j _ => ⟨rfl, getD_small hs _⟩⟩
      | 1, _ => exact ⟨_, _, _, _, rfl, .inr rfl, fun j _ => ⟨rfl, eightN_lt _ _⟩⟩
      | 2, _ => exact ⟨_, _, _, _, rfl, .inr rfl, fun j _ => ⟨rfl, eightN_lt _ _⟩⟩
    have hof := of_call (tag := 83) (ex := false) (e := 1) (by decide) hpa (.inr rfl) (by rw [hp3']; simp [ofBytes, eightL, hk])
    rw [hp3'] at hof
    refine ⟨(by first | omega | decide | (unfold I64; omega)), eight_fun id hid, eight_fun _ (by first | omega | decide | (unfold I64; omega)), hof, fun _ _ => trivial, ⟨rfl, rfl, fun _ _ => ⟨rfl, rfl⟩⟩, (by first | omega | decide | (unfold I64; omega)), (by first | omega | decide | (unfold I64; omega)), (by first | omega | decide | (unfold I64; omega)), (by first | omega | decide | (unfold I64; omega)), round_end (i + 1) (by omega) (ent_of [(3, 3), (30, 7)] rfl (tm_cons rfl (sm_same rfl) (tm_cons rfl (sm_same rfl) (tm_cons rfl (sm_ptr rfl) (tm_cons rfl (sm_sl rfl ?_ ?_ ?_ (by simp)) (tm_cons rfl (sm_same rfl) tm_nil))))) (hp_cons rfl rfl (sm_same rfl) (hp_cons rfl rfl (sm_arr' ?_ fun j hj => ?_) hp_nil))) (by dsimp only; omega)⟩
    · rw [hL']; rfl
    · rw [hL']; exact Nat.le_refl _
    · rw [hL']; exact Nat.le_refl _
    · rw [hL']; rfl
    · have hj' : j < LN n i + c := hj
      show _ = u8 ((streamL key id (LN n (i + 1))).getD j 0)
      rw [streamL_get key id (by omega)]
      unfold cat
      by_cases e : j < LN n i
      · rw [if_pos e]
        dsimp only
        rw [Nat.zero_add, streamL_get key id e]
      · rw [if_neg e]
        have e1 : j / 32 = i := by omega
        have e2 : j % 32 = j - LN n i := by omega
        rw [e1, e2]
        dsimp only
        rw [Nat.zero_add]
        show u8 _ = u8 ((sumL (ofBytes 83 [key, eightL id, eightL i])).getD _ 0)
        rw [sumL_get _ (by omega)]
  simp only [decide_eq_false_iff_not] at h
  have hL : LN n i = n.toNat := by unfold LN at h ⊢; omega
  rw [hL]
  exact funPost_of (S2 := { tm := [(6, .sl 0 [] 0 n.toNat n.toNat false 1)], hp := [(0, .c (ab n.toNat (streamN key id n.toNat)))], seen := [0] }) (by simp) (ent_of [(7, 0)] rfl (tm_cons rfl (sm_sl rfl rfl (Nat.le_refl _) (Nat.le_refl _) (by simp)) tm_nil) (hp_cons rfl rfl (sm_same rfl) hp_nil)) rfl
      (.inr ⟨rfl, rfl, rfl, rfl, Nat.le_refl _, Nat.le_refl _, by simp, rfl⟩) fun _ _ h => h
end Go.Bu.W

