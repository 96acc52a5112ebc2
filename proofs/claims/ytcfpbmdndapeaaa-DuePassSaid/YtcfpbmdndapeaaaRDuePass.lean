/- The Go function 'watchmanlaw09.DuePass' returns true whatever its arguments hold, and leaves them as they were. No condition. -/
import Derived.Test.YtcfpbmdndapeaaaRows
import Derived.Test.YtcfpbmdndapeaaaQDuePass
import Derived.Test.YtcfpbmdndapeaaaPDuePass
import Derived.WalkKit
import Derived.ProofKit
import Derived.OpenShut
import Derived.ShutString
import Derived.ChangeOld
import Derived.Below
import Derived.SizedLaws
namespace Go.Proofs.Ytcfpbmdndapeaaa.duePass
open Go.ChangeShapes Go.WideShapes Go.ChangeAt Go.RowKit Go.Proofs.YtcfpbmdndapeaaaV.PrintWords Go.Proofs.Ytcfpbmdndapeaaa.X Go.Proofs.Ytcfpbmdndapeaaa.F
open Go.ChangeMaps (open_string shut_string)
set_option linter.unusedVariables false
theorem own : ownKnob Try.prog.godebug = none := by kernel_rfl
theorem laidOut : laidOutB Try.prog = true := by kernel_rfl
set_option maxRecDepth 100000 in
set_option maxHeartbeats 1000000 in
theorem lifted (os : Os) (started : os.Started) (H : Type) (enc : TypeId × Value → H) :
 ReturnsInHanded {} Try.checked os 11 .any (Rows.duePassSpec.pre6 enc Try.prog Try.f11 Rows.duePassRow.domain false) (Rows.duePassSpec.post enc Try.prog Try.f11 false true false false) := by
 refine returnsInHanded_of_change_sized (C := Try.checked) own started (by kernel_rfl) Try.func11
  (ChangeSpec.witness6 (enc := enc) (C := Try.checked) false ⟨#[], #[.agg #[.int .i64 0, .int .i64 0, .slice none 0 0], .int .i64 0], []⟩ 8 (by kernel_rfl) (by kernel_rfl) (by kernel_rfl) (by kernel_rfl)) ?_
 intro W base args ds gs before hval0 hW hcnd hsz0 _
 have hsz : (DataW.weightsEach Try.prog (Try.f11.params.toList ++ Rows.duePassSpec.plain.varTypes Try.prog) (ds ++ gs)).all (· ≤ reachBytes) = true := hsz0
 have hval : ∀ (j : Nat) t v, Try.f11.params[j]? = some t → args[j]? = some v → Value.okWide Try.prog W .any base t v := hval0
 have hW' := hW
 obtain ⟨p, q, hA0, hV, rfl, hfz, hnd⟩ := hW
 have hA : DataW.TrodAll enc Try.prog W 0 (fun _ => true) true Try.f11.params.toList args.toList ds p := hA0
 rw [Try.params11] at hA hval hsz
 obtain ⟨v0, vs0, d0, ds0, p0, q0, hargs, rfl, rfl, h0, r0⟩ := trodAll_cons hA
 obtain ⟨v1, vs1, d1, ds1, p1, q1, rfl, rfl, rfl, h1, r1⟩ := trodAll_cons r0
 obtain ⟨rfl, rfl, rfl⟩ := trodAll_nil r1
 obtain rfl : args = #[v0, v1] := by cases args; simp_all
 obtain ⟨rfl, rfl⟩ := trodVars_none hV
 have lt0 : ∀ x ∈ p0, x.block < W.heap.size := by obtain ⟨m, hm⟩ := h0; exact DataW.trod_lt m _ _ _ hm
 obtain ⟨x0, K0, V0⟩ := Opens.arg opens24 hsz (j := 0) (t := 24) rfl rfl h0
 obtain ⟨cs0, hag0, _⟩ := okWide_struct Try.underlying24 (hval 0 24 v0 rfl rfl)
 obtain ⟨A0_2, c0_2, E0, hc0_2, hr0_2⟩ := k24_open K0
 obtain rfl := agg_of hag0 E0
 clear hag0 E0
 obtain ⟨x1, rfl, rfl, rfl, V1⟩ := open_int Try.underlying3 (hval 1 3 v1 rfl rfl) h1
 clear hA0 hval0 hsz0 hsz
 obtain ⟨k, h⟩ := (Go.Proofs.Ytcfpbmdndapeaaa.F.DuePass_pure : watchmanlaw09_DuePass.Pure) x0.f0 x0.f1 x0.f2 x1 V0.1 V0.2.1 V0.2.2.1 V0.2.2.2 V1
 refine (watchmanlaw09_DuePass.calls k x0.f0 x0.f1 _ _ x0.f2 x1 true W hr0_2 hc0_2 h).mono fun e W' hh => ?_
 obtain ⟨he, bel⟩ := hh
 subst he
 exact ⟨_, rfl, _, _, _, [], _, [], hW', trodAll_mk1 (shut_bool Try.underlying4 _), (trodAll_cons_mk (Below.trod laidOut (by kernel_rfl) (of_decide_eq_true (by kernel_rfl)) h0 bel lt0) (trodAll_cons_mk (shut_int Try.underlying3 V1) trodAll_mk0)), rfl, bel.frame _, fun h => by cases h⟩
theorem over : Rows.duePassRow.holds Try.pinned (OpenSpec.ofChange Rows.duePassSpec) :=
 OpenClaim.holds_of_wide 11 Try.f11 rfl rfl rfl rfl rfl rfl rfl ⟨rfl, rfl, rfl, rfl, rfl⟩ rfl rfl rfl rfl rfl (by kernel_rfl) Try.func11 (by kernel_rfl)
  (of_decide_eq_true (by kernel_rfl)) (by unfold Func.isWrapper; first | (rw [if_pos (by decide +kernel)]; kernel_rfl) | (rw [if_neg (by decide +kernel)]; exact ⟨rfl, rfl⟩))
  (fun os started H enc _ => lifted os started H enc)
theorem proved : Rows.DuePassSaid := over
#print axioms proved
end Go.Proofs.Ytcfpbmdndapeaaa.duePass
namespace Go.Proofs.Ytcfpbmdndapeaaa
/-- The row, under a short name, for the claim. -/
theorem duePass_holds : Rows.DuePassSaid := duePass.proved
end Go.Proofs.Ytcfpbmdndapeaaa
