/- The Go function 'watchmanlaw09.DueOrder' returns true whatever its arguments hold, and leaves them as they were. No condition. -/
import Derived.Test.YtcfpbmdndapeaaaRows
import Derived.Test.YtcfpbmdndapeaaaQDueOrder
import Derived.Test.YtcfpbmdndapeaaaPDueOrder
import Derived.WalkKit
import Derived.ProofKit
import Derived.OpenShut
import Derived.ShutString
import Derived.ChangeOld
import Derived.Below
import Derived.SizedLaws
namespace Go.Proofs.Ytcfpbmdndapeaaa.dueOrder
open Go.ChangeShapes Go.WideShapes Go.ChangeAt Go.RowKit Go.Proofs.YtcfpbmdndapeaaaV.PrintWords Go.Proofs.Ytcfpbmdndapeaaa.X Go.Proofs.Ytcfpbmdndapeaaa.F
open Go.ChangeMaps (open_string shut_string)
set_option linter.unusedVariables false
theorem own : ownKnob Try.prog.godebug = none := by kernel_rfl
theorem laidOut : laidOutB Try.prog = true := by kernel_rfl
set_option maxRecDepth 100000 in
set_option maxHeartbeats 1000000 in
theorem lifted (os : Os) (started : os.Started) (H : Type) (enc : TypeId × Value → H) :
    ReturnsInHanded {} Try.checked os 10 .any (Rows.dueOrderSpec.pre6 enc Try.prog Try.f10 Rows.dueOrderRow.domain false) (Rows.dueOrderSpec.post enc Try.prog Try.f10 false true false false) := by
  refine returnsInHanded_of_change_sized (C := Try.checked) own started (by kernel_rfl) Try.func10
    (ChangeSpec.witness6 (enc := enc) (C := Try.checked) false ⟨#[], #[.slice none 0 0], []⟩ 8 (by kernel_rfl) (by kernel_rfl) (by kernel_rfl) (by kernel_rfl)) ?_
  intro W base args ds gs before hval0 hW hcnd hsz0 _
  have hsz : (DataW.weightsEach Try.prog (Try.f10.params.toList ++ Rows.dueOrderSpec.plain.varTypes Try.prog) (ds ++ gs)).all (· ≤ reachBytes) = true := hsz0
  have hval : ∀ (j : Nat) t v, Try.f10.params[j]? = some t → args[j]? = some v → Value.okWide Try.prog W .any base t v := hval0
  have hW' := hW
  obtain ⟨p, q, hA0, hV, rfl, hfz, hnd⟩ := hW
  have hA : DataW.TrodAll enc Try.prog W 0 (fun _ => true) true Try.f10.params.toList args.toList ds p := hA0
  rw [Try.params10] at hA hval hsz
  obtain ⟨v0, vs0, d0, ds0, p0, q0, hargs, rfl, rfl, h0, r0⟩ := trodAll_cons hA
  obtain ⟨rfl, rfl, rfl⟩ := trodAll_nil r0
  obtain rfl : args = #[v0] := by cases args; simp_all
  obtain ⟨rfl, rfl⟩ := trodVars_none hV
  have lt0 : ∀ x ∈ p0, x.block < W.heap.size := by obtain ⟨m, hm⟩ := h0; exact DataW.trod_lt m _ _ _ hm
  obtain ⟨x0, K0, V0⟩ := Opens.arg (opens_slice (B := 32) Try.underlying53 opens65 (by kernel_rfl) (by kernel_rfl)) hsz (j := 0) (t := 53) rfl rfl h0
  obtain ⟨b0, n0, m0, rfl⟩ := okWide_slice Try.underlying53 (hval 0 53 v0 rfl rfl)
  obtain ⟨A0, c0, E0, hc0, hr0⟩ := K0
  simp only [Value.cells, List.cons.injEq, Value.slice.injEq, and_true] at E0
  obtain ⟨rfl, rfl, rfl⟩ := E0
  clear hA0 hval0 hsz0 hsz
  obtain ⟨k, h⟩ := (Go.Proofs.Ytcfpbmdndapeaaa.F.DueOrder_pure : watchmanlaw09_DueOrder.Pure) x0 V0.1 V0.2
  refine (watchmanlaw09_DueOrder.calls k _ _ x0 true W hr0 hc0 h).mono fun e W' hh => ?_
  obtain ⟨he, bel⟩ := hh
  subst he
  exact ⟨_, rfl, _, _, _, [], _, [], hW', trodAll_mk1 (shut_bool Try.underlying4 _), (trodAll_cons_mk (Below.trod laidOut (by kernel_rfl) (of_decide_eq_true (by kernel_rfl)) h0 bel lt0) trodAll_mk0), rfl, bel.frame _, fun h => by cases h⟩
theorem over : Rows.dueOrderRow.holds Try.pinned (OpenSpec.ofChange Rows.dueOrderSpec) :=
  OpenClaim.holds_of_wide 10 Try.f10 rfl rfl rfl rfl rfl rfl rfl ⟨rfl, rfl, rfl, rfl, rfl⟩ rfl rfl rfl rfl rfl (by kernel_rfl) Try.func10 (by kernel_rfl)
    (of_decide_eq_true (by kernel_rfl)) (by unfold Func.isWrapper; first | (rw [if_pos (by decide +kernel)]; kernel_rfl) | (rw [if_neg (by decide +kernel)]; exact ⟨rfl, rfl⟩))
    (fun os started H enc _ => lifted os started H enc)
theorem proved : Rows.DueOrderSaid := over
#print axioms proved
end Go.Proofs.Ytcfpbmdndapeaaa.dueOrder
namespace Go.Proofs.Ytcfpbmdndapeaaa
/-- The row, under a short name, for the claim. -/
theorem dueOrder_holds : Rows.DueOrderSaid := dueOrder.proved
end Go.Proofs.Ytcfpbmdndapeaaa
