/- The Go function 'watchmanlaw23.LogBest' returns true whatever its arguments hold, and leaves them as they were. No condition. -/
import Derived.Test.YtncoccpgdgdknaaRows
import Derived.Test.YtncoccpgdgdknaaQLogBest
import Derived.Test.YtncoccpgdgdknaaPLogBest
import Derived.WalkKit
import Derived.ProofKit
import Derived.OpenShut
import Derived.ShutString
import Derived.ChangeOld
import Derived.Below
import Derived.SizedLaws
namespace Go.Proofs.Ytncoccpgdgdknaa.logBest
open Go.ChangeShapes Go.WideShapes Go.ChangeAt Go.RowKit Go.Proofs.YtncoccpgdgdknaaW.PrintWords Go.Proofs.Ytncoccpgdgdknaa.X Go.Proofs.Ytncoccpgdgdknaa.F
open Go.ChangeMaps (open_string shut_string)
set_option linter.unusedVariables false
theorem own : ownKnob Try.prog.godebug = none := by kernel_rfl
theorem laidOut : laidOutB Try.prog = true := by kernel_rfl
set_option maxRecDepth 100000 in
set_option maxHeartbeats 1000000 in
theorem lifted (os : Os) (started : os.Started) (H : Type) (enc : TypeId × Value → H) :
    ReturnsInHanded {} Try.checked os 7 .any (Rows.logBestSpec.pre6 enc Try.prog Try.f7 Rows.logBestRow.domain false) (Rows.logBestSpec.post enc Try.prog Try.f7 false true false false) := by
  refine returnsInHanded_of_change_sized (C := Try.checked) own started (by kernel_rfl) Try.func7
    (ChangeSpec.witness6 (enc := enc) (C := Try.checked) false ⟨#[], #[.slice none 0 0, .agg #[.int .i64 0, .int .i64 0, .int .i64 0, .slice none 0 0]], []⟩ 8 (by kernel_rfl) (by kernel_rfl) (by kernel_rfl) (by kernel_rfl)) ?_
  intro W base args ds gs before hval0 hW hcnd hsz0 _
  have hsz : (DataW.weightsEach Try.prog (Try.f7.params.toList ++ Rows.logBestSpec.plain.varTypes Try.prog) (ds ++ gs)).all (· ≤ reachBytes) = true := hsz0
  have hval : ∀ (j : Nat) t v, Try.f7.params[j]? = some t → args[j]? = some v → Value.okWide Try.prog W .any base t v := hval0
  have hW' := hW
  obtain ⟨p, q, hA0, hV, rfl, hfz, hnd⟩ := hW
  have hA : DataW.TrodAll enc Try.prog W 0 (fun _ => true) true Try.f7.params.toList args.toList ds p := hA0
  rw [Try.params7] at hA hval hsz
  obtain ⟨v0, vs0, d0, ds0, p0, q0, hargs, rfl, rfl, h0, r0⟩ := trodAll_cons hA
  obtain ⟨v1, vs1, d1, ds1, p1, q1, rfl, rfl, rfl, h1, r1⟩ := trodAll_cons r0
  obtain ⟨rfl, rfl, rfl⟩ := trodAll_nil r1
  obtain rfl : args = #[v0, v1] := by cases args; simp_all
  obtain ⟨rfl, rfl⟩ := trodVars_none hV
  have lt0 : ∀ x ∈ p0, x.block < W.heap.size := by obtain ⟨m, hm⟩ := h0; exact DataW.trod_lt m _ _ _ hm
  obtain ⟨x0, K0, V0⟩ := Opens.arg (opens_slice (B := 48) Try.underlying34 opens36 (by kernel_rfl) (by kernel_rfl)) hsz (j := 0) (t := 34) rfl rfl h0
  obtain ⟨b0, n0, m0, rfl⟩ := okWide_slice Try.underlying34 (hval 0 34 v0 rfl rfl)
  obtain ⟨A0, c0, E0, hc0, hr0⟩ := K0
  simp only [Value.cells, List.cons.injEq, Value.slice.injEq, and_true] at E0
  obtain ⟨rfl, rfl, rfl⟩ := E0
  have lt1 : ∀ x ∈ p1, x.block < W.heap.size := by obtain ⟨m, hm⟩ := h1; exact DataW.trod_lt m _ _ _ hm
  obtain ⟨x1, K1, V1⟩ := Opens.arg opens36 hsz (j := 1) (t := 36) rfl rfl h1
  obtain ⟨cs1, hag1, _⟩ := okWide_struct Try.underlying36 (hval 1 36 v1 rfl rfl)
  obtain ⟨A1_3, c1_3, E1, hc1_3, hr1_3⟩ := k36_open K1
  obtain rfl := agg_of hag1 E1
  clear hag1 E1
  clear hA0 hval0 hsz0 hsz
  obtain ⟨k, h⟩ := (Go.Proofs.Ytncoccpgdgdknaa.F.LogBest_pure : watchmanlaw23_LogBest.Pure) x0 x1.f0 x1.f1 x1.f2 x1.f3 V0.1 V0.2 V1.1 V1.2.1 V1.2.2.1 V1.2.2.2.1 V1.2.2.2.2
  refine (watchmanlaw23_LogBest.calls k (fun k_ => k_ < W.heap.size) _ _ x0 x1.f0 x1.f1 x1.f2 (fun k_ => k_ < W.heap.size) _ _ x1.f3 true W (Kd.V_mk hc0 (Kd.C_F k36_heap hr0)) (Kd.V_mk hc1_3 (Kd.C_F Kd.heap_string hr1_3)) h).mono fun e W' hh => ?_
  obtain ⟨he, bel⟩ := hh
  subst he
  exact ⟨_, rfl, _, _, _, [], _, [], hW', trodAll_mk1 (shut_bool Try.underlying4 _), (trodAll_cons_mk (Below.trod laidOut (by kernel_rfl) (of_decide_eq_true (by kernel_rfl)) h0 bel lt0) (trodAll_cons_mk (Below.trod laidOut (by kernel_rfl) (of_decide_eq_true (by kernel_rfl)) h1 bel lt1) trodAll_mk0)), rfl, bel.frame _, fun h => by cases h⟩
theorem over : Rows.logBestRow.holds Try.pinned (OpenSpec.ofChange Rows.logBestSpec) :=
  OpenClaim.holds_of_wide 7 Try.f7 rfl rfl rfl rfl rfl rfl rfl ⟨rfl, rfl, rfl, rfl, rfl⟩ rfl rfl rfl rfl rfl (by kernel_rfl) Try.func7 (by kernel_rfl)
    (of_decide_eq_true (by kernel_rfl)) (by unfold Func.isWrapper; first | (rw [if_pos (by decide +kernel)]; kernel_rfl) | (rw [if_neg (by decide +kernel)]; exact ⟨rfl, rfl⟩))
    (fun os started H enc _ => lifted os started H enc)
theorem proved : Rows.LogBestSaid := over
#print axioms proved
end Go.Proofs.Ytncoccpgdgdknaa.logBest
namespace Go.Proofs.Ytncoccpgdgdknaa
/-- The row, under a short name, for the claim. -/
theorem logBest_holds : Rows.LogBestSaid := logBest.proved
end Go.Proofs.Ytncoccpgdgdknaa
