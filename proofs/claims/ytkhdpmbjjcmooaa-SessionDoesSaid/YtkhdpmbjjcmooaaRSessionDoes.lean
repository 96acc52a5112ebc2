/- The Go function 'watchmanlaw18.SessionDoes' returns true whatever its arguments hold, and leaves them as they were. No condition. -/
import Derived.Test.YtkhdpmbjjcmooaaRows
import Derived.Test.YtkhdpmbjjcmooaaQSessionDoes
import Derived.Test.YtkhdpmbjjcmooaaPSessionDoes
import Derived.WalkKit
import Derived.ProofKit
import Derived.OpenShut
import Derived.ShutString
import Derived.ChangeOld
import Derived.Below
import Derived.SizedLaws
namespace Go.Proofs.Ytkhdpmbjjcmooaa.sessionDoes
open Go.ChangeShapes Go.WideShapes Go.ChangeAt Go.RowKit Go.Proofs.YtkhdpmbjjcmooaaV.PrintWords Go.Proofs.Ytkhdpmbjjcmooaa.X Go.Proofs.Ytkhdpmbjjcmooaa.F
open Go.ChangeMaps (open_string shut_string)
set_option linter.unusedVariables false
theorem own : ownKnob Try.prog.godebug = none := by kernel_rfl
theorem laidOut : laidOutB Try.prog = true := by kernel_rfl
set_option maxRecDepth 100000 in
set_option maxHeartbeats 1000000 in
theorem lifted (os : Os) (started : os.Started) (H : Type) (enc : TypeId × Value → H) :
    ReturnsInHanded {} Try.checked os 6 .any (Rows.sessionDoesSpec.pre6 enc Try.prog Try.f6 Rows.sessionDoesRow.domain false) (Rows.sessionDoesSpec.post enc Try.prog Try.f6 false true false false) := by
  refine returnsInHanded_of_change_sized (C := Try.checked) own started (by kernel_rfl) Try.func6
    (ChangeSpec.witness6 (enc := enc) (C := Try.checked) false ⟨#[], #[.slice none 0 0, .int .i64 0, .int .i64 0, .int .i64 0, .int .i64 0, .agg #[.int .i64 0, .int .i64 0, .slice none 0 0]], []⟩ 8 (by kernel_rfl) (by kernel_rfl) (by kernel_rfl) (by kernel_rfl)) ?_
  intro W base args ds gs before hval0 hW hcnd hsz0 _
  have hsz : (DataW.weightsEach Try.prog (Try.f6.params.toList ++ Rows.sessionDoesSpec.plain.varTypes Try.prog) (ds ++ gs)).all (· ≤ reachBytes) = true := hsz0
  have hval : ∀ (j : Nat) t v, Try.f6.params[j]? = some t → args[j]? = some v → Value.okWide Try.prog W .any base t v := hval0
  have hW' := hW
  obtain ⟨p, q, hA0, hV, rfl, hfz, hnd⟩ := hW
  have hA : DataW.TrodAll enc Try.prog W 0 (fun _ => true) true Try.f6.params.toList args.toList ds p := hA0
  rw [Try.params6] at hA hval hsz
  obtain ⟨v0, vs0, d0, ds0, p0, q0, hargs, rfl, rfl, h0, r0⟩ := trodAll_cons hA
  obtain ⟨v1, vs1, d1, ds1, p1, q1, rfl, rfl, rfl, h1, r1⟩ := trodAll_cons r0
  obtain ⟨v2, vs2, d2, ds2, p2, q2, rfl, rfl, rfl, h2, r2⟩ := trodAll_cons r1
  obtain ⟨v3, vs3, d3, ds3, p3, q3, rfl, rfl, rfl, h3, r3⟩ := trodAll_cons r2
  obtain ⟨v4, vs4, d4, ds4, p4, q4, rfl, rfl, rfl, h4, r4⟩ := trodAll_cons r3
  obtain ⟨v5, vs5, d5, ds5, p5, q5, rfl, rfl, rfl, h5, r5⟩ := trodAll_cons r4
  obtain ⟨rfl, rfl, rfl⟩ := trodAll_nil r5
  obtain rfl : args = #[v0, v1, v2, v3, v4, v5] := by cases args; simp_all
  obtain ⟨rfl, rfl⟩ := trodVars_none hV
  have lt0 : ∀ x ∈ p0, x.block < W.heap.size := by obtain ⟨m, hm⟩ := h0; exact DataW.trod_lt m _ _ _ hm
  obtain ⟨x0, K0, V0⟩ := Opens.arg (opens_slice (B := 64) Try.underlying22 opens39 (by kernel_rfl) (by kernel_rfl)) hsz (j := 0) (t := 22) rfl rfl h0
  obtain ⟨b0, n0, m0, rfl⟩ := okWide_slice Try.underlying22 (hval 0 22 v0 rfl rfl)
  obtain ⟨A0, c0, E0, hc0, hr0⟩ := K0
  simp only [Value.cells, List.cons.injEq, Value.slice.injEq, and_true] at E0
  obtain ⟨rfl, rfl, rfl⟩ := E0
  obtain ⟨x1, rfl, rfl, rfl, V1⟩ := open_int Try.underlying3 (hval 1 3 v1 rfl rfl) h1
  obtain ⟨x2, rfl, rfl, rfl, V2⟩ := open_int Try.underlying3 (hval 2 3 v2 rfl rfl) h2
  obtain ⟨x3, rfl, rfl, rfl, V3⟩ := open_int Try.underlying3 (hval 3 3 v3 rfl rfl) h3
  obtain ⟨x4, rfl, rfl, rfl, V4⟩ := open_int Try.underlying3 (hval 4 3 v4 rfl rfl) h4
  have lt5 : ∀ x ∈ p5, x.block < W.heap.size := by obtain ⟨m, hm⟩ := h5; exact DataW.trod_lt m _ _ _ hm
  obtain ⟨x5, K5, V5⟩ := Opens.arg opens26 hsz (j := 5) (t := 26) rfl rfl h5
  obtain ⟨cs5, hag5, _⟩ := okWide_struct Try.underlying26 (hval 5 26 v5 rfl rfl)
  obtain ⟨A5_2, c5_2, E5, hc5_2, hr5_2⟩ := k26_open K5
  obtain rfl := agg_of hag5 E5
  clear hag5 E5
  clear hA0 hval0 hsz0 hsz
  obtain ⟨k, h⟩ := (Go.Proofs.Ytkhdpmbjjcmooaa.F.SessionDoes_pure : watchmanlaw18_SessionDoes.Pure) x0 x1 x2 x3 x4 x5.f0 x5.f1 x5.f2 V0.1 V0.2 V1 V2 V3 V4 V5.1 V5.2.1 V5.2.2.1 V5.2.2.2
  refine (watchmanlaw18_SessionDoes.calls k _ _ x0 x1 x2 x3 x4 x5.f0 x5.f1 _ _ x5.f2 true W hr0 hc0 hr5_2 hc5_2 h).mono fun e W' hh => ?_
  obtain ⟨he, bel⟩ := hh
  subst he
  exact ⟨_, rfl, _, _, _, [], _, [], hW', trodAll_mk1 (shut_bool Try.underlying4 _), (trodAll_cons_mk (Below.trod laidOut (by kernel_rfl) (of_decide_eq_true (by kernel_rfl)) h0 bel lt0) (trodAll_cons_mk (shut_int Try.underlying3 V1) (trodAll_cons_mk (shut_int Try.underlying3 V2) (trodAll_cons_mk (shut_int Try.underlying3 V3) (trodAll_cons_mk (shut_int Try.underlying3 V4) (trodAll_cons_mk (Below.trod laidOut (by kernel_rfl) (of_decide_eq_true (by kernel_rfl)) h5 bel lt5) trodAll_mk0)))))), rfl, bel.frame _, fun h => by cases h⟩
theorem over : Rows.sessionDoesRow.holds Try.pinned (OpenSpec.ofChange Rows.sessionDoesSpec) :=
  OpenClaim.holds_of_wide 6 Try.f6 rfl rfl rfl rfl rfl rfl rfl ⟨rfl, rfl, rfl, rfl, rfl⟩ rfl rfl rfl rfl rfl (by kernel_rfl) Try.func6 (by kernel_rfl)
    (of_decide_eq_true (by kernel_rfl)) (by unfold Func.isWrapper; first | (rw [if_pos (by decide +kernel)]; kernel_rfl) | (rw [if_neg (by decide +kernel)]; exact ⟨rfl, rfl⟩))
    (fun os started H enc _ => lifted os started H enc)
theorem proved : Rows.SessionDoesSaid := over
#print axioms proved
end Go.Proofs.Ytkhdpmbjjcmooaa.sessionDoes
namespace Go.Proofs.Ytkhdpmbjjcmooaa
/-- The row, under a short name, for the claim. -/
theorem sessionDoes_holds : Rows.SessionDoesSaid := sessionDoes.proved
end Go.Proofs.Ytkhdpmbjjcmooaa
