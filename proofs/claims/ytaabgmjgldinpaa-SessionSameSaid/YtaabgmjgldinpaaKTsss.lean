/- SessionSame: the law's row: for every input the call returns true, and each argument reads behind the call as it read before. -/
import Derived.Test.YtaabgmjgldinpaaRows
import Derived.Test.YtaabgmjgldinpaaKLsss
import Derived.Test.YtaabgmjgldinpaaK10
namespace Go.Proofs.Ytaabgmjgldinpaa.Tsss
open Go.ChangeShapes Go.WideShapes Go.ChangeAt Go.RowKit
open Go.Bu (arg_rv arg_rvB law_calls rvs_nil rvs_cons gl_table)

theorem own : ownKnob Try.prog.godebug = none := by kernel_rfl
theorem laidOut : laidOutB Try.prog = true := by kernel_rfl

set_option maxRecDepth 100000 in
theorem contract (H : Type) (enc : TypeId × Value → H) (W : World) (base : Nat) (args : Array Value) (ds gs : List (DataW H)) (before : List MemPlace)
    (hval : ∀ (j : Nat) t v, Try.f5.params[j]? = some t → args[j]? = some v → Value.okWide Try.prog W .any base t v)
    (hW : DataW.Whole enc Try.prog Try.f5.params.toList Rows.sessionSameSpec.vars false W args.toList ds gs before)
    (hz : (DataW.weightsEach Try.prog (Try.f5.params.toList ++ Rows.sessionSameSpec.plain.varTypes Try.prog) (ds ++ gs)).all (· ≤ reachBytes) = true) :
    Calls Try.prog 5 args W fun e W' => ∃ v, e = .returned v ∧ Rows.sessionSameSpec.post enc Try.prog Try.f5 false true false false W args v W' := by
  have hW' := hW
  obtain ⟨p, q, hA0, hV, rfl, hfz, hnd⟩ := hW
  have hA : DataW.TrodAll enc Try.prog W 0 (fun _ => true) true Try.f5.params.toList args.toList ds p := hA0
  rw [Try.params5] at hA hval hz
  obtain ⟨v0, vs0, d0, ds0, p0, q0, hargs, rfl, rfl, h0, r0⟩ := trodAll_cons hA
  obtain ⟨v1, vs1, d1, ds1, p1, q1, rfl, rfl, rfl, h1, r1⟩ := trodAll_cons r0
  obtain ⟨rfl, rfl, rfl⟩ := trodAll_nil r1
  obtain rfl : args = #[v0, v1] := by cases args; simp_all
  obtain ⟨rfl, rfl⟩ := trodVars_none hV
  obtain ⟨x0, e0, y0⟩ := arg_rvB Bu.W.ctx 6 (t := 39) (by kernel_rfl) (by kernel_rfl) (hval 0 39 v0 rfl rfl) h0 (fun z hz0 => by simpa using List.all_eq_true.1 hz z (DataW.weights_mem_each (j := 0) (t := 39) (d := d0) rfl rfl z hz0))
  have lt0 : ∀ x ∈ p0, x.block < W.heap.size := by obtain ⟨m, hm⟩ := h0; exact DataW.trod_lt m _ _ _ hm
  obtain ⟨x1, e1, y1⟩ := arg_rv Bu.W.ctx 6 (t := 51) (by kernel_rfl) (by kernel_rfl) (hval 1 51 v1 rfl rfl) h1
  have lt1 : ∀ x ∈ p1, x.block < W.heap.size := by obtain ⟨m, hm⟩ := h1; exact DataW.trod_lt m _ _ _ hm
  have hgl : ∀ g x, Bu.W.C.gl g = some x → Bu.RV W (fun b => b < W.heap.size) (fun _ => none) (.pd x) (.pointer (some ⟨g, 0, none⟩)) := fun g x hg => by cases hg
  refine (law_calls (fn := Try.f5) (c := Bu.W.b_sss) (args := [x0, x1]) (vs := [v0, v1]) Try.func5 (by kernel_rfl) (by kernel_rfl) (Bu.W.sss_law y0 y1) rfl (rvs_cons e0 (rvs_cons e1 rvs_nil)) hgl).mono fun e W' ⟨he, bel⟩ => ?_
  subst he
  exact ⟨_, rfl, _, _, _, [], _, [], hW', trodAll_mk1 (shut_bool Try.underlying4 _), (trodAll_cons_mk (Below.trod laidOut (by kernel_rfl) (of_decide_eq_true (by kernel_rfl)) h0 bel lt0) (trodAll_cons_mk (Below.trod laidOut (by kernel_rfl) (of_decide_eq_true (by kernel_rfl)) h1 bel lt1) trodAll_mk0)), rfl, bel.frame _, fun h => by cases h⟩

set_option maxRecDepth 100000 in
theorem lifted (os : Os) (started : os.Started) (H : Type) (enc : TypeId × Value → H) :
    ReturnsInHanded {} Try.checked os 5 .any (Rows.sessionSameSpec.pre6 enc Try.prog Try.f5 Rows.sessionSameRow.domain false) (Rows.sessionSameSpec.post enc Try.prog Try.f5 false true false false) := by
  refine returnsInHanded_of_change_sized (C := Try.checked) own started (by kernel_rfl) Try.func5
    (ChangeSpec.witness6 (enc := enc) (C := Try.checked) false ⟨#[], #[.agg #[.int .i64 0, .int .i64 0, .slice none 0 0, .slice none 0 0, .int .i64 0, .int .i64 0, .int .i64 0, .slice none 0 0, .slice none 0 0, .slice none 0 0, .int .i64 0, .int .i64 0], .agg #[.int .u8 0, .int .u8 0, .int .u8 0]], []⟩ 8 (by kernel_rfl) (by kernel_rfl) (by kernel_rfl) (by kernel_rfl)) ?_
  intro W base args ds gs before hval hW _ hz _
  exact contract H enc W base args ds gs before hval hW hz

set_option maxRecDepth 100000 in
theorem said : Rows.SessionSameSaid :=
  OpenClaim.holds_of_wide 5 Try.f5 rfl rfl rfl rfl rfl rfl rfl ⟨rfl, rfl, rfl, rfl, rfl⟩ rfl rfl rfl rfl rfl (by kernel_rfl) Try.func5 (by kernel_rfl)
    (of_decide_eq_true (by kernel_rfl)) (by unfold Func.isWrapper; first | (rw [if_pos (by decide +kernel)]; kernel_rfl) | (rw [if_neg (by decide +kernel)]; exact ⟨rfl, rfl⟩))
    (fun os started H enc _ => lifted os started H enc)
end Go.Proofs.Ytaabgmjgldinpaa.Tsss
namespace Go.Proofs.Ytaabgmjgldinpaa
theorem sessionSame_holds : Rows.SessionSameSaid := Tsss.said
end Go.Proofs.Ytaabgmjgldinpaa

