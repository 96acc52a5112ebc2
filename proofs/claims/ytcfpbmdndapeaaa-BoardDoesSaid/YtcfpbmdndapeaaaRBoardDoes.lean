/- The Go function 'watchmanlaw08.BoardDoes' returns true whatever its arguments hold, and leaves them as they were. No condition. -/
import Derived.Test.YtcfpbmdndapeaaaRows
import Derived.Test.YtcfpbmdndapeaaaQBoardDoes
import Derived.Test.YtcfpbmdndapeaaaPBoardDoes
import Derived.WalkKit
import Derived.ProofKit
import Derived.OpenShut
import Derived.ShutString
import Derived.ChangeOld
import Derived.Below
import Derived.SizedLaws
namespace Go.Proofs.Ytcfpbmdndapeaaa.boardDoes
open Go.ChangeShapes Go.WideShapes Go.ChangeAt Go.RowKit Go.Proofs.YtcfpbmdndapeaaaV.PrintWords Go.Proofs.Ytcfpbmdndapeaaa.X Go.Proofs.Ytcfpbmdndapeaaa.F
open Go.ChangeMaps (open_string shut_string)
set_option linter.unusedVariables false
theorem own : ownKnob Try.prog.godebug = none := by kernel_rfl
theorem laidOut : laidOutB Try.prog = true := by kernel_rfl
set_option maxRecDepth 100000 in
set_option maxHeartbeats 1000000 in
theorem lifted (os : Os) (started : os.Started) (H : Type) (enc : TypeId × Value → H) :
    ReturnsInHanded {} Try.checked os 3 .any (Rows.boardDoesSpec.pre6 enc Try.prog Try.f3 Rows.boardDoesRow.domain false) (Rows.boardDoesSpec.post enc Try.prog Try.f3 false true false false) := by
  refine returnsInHanded_of_change_sized (C := Try.checked) own started (by kernel_rfl) Try.func3
    (ChangeSpec.witness6 (enc := enc) (C := Try.checked) false ⟨#[], #[.agg #[.int .i64 0, .int .i64 0, .slice none 0 0], .agg #[.int .i64 0, .int .i64 0, .int .i64 0, .int .i64 0, .int .i64 0, .int .i64 0], .agg #[.int .i64 0, .int .i64 0], .int .i64 0, .int .i64 0, .slice none 0 0], []⟩ 8 (by kernel_rfl) (by kernel_rfl) (by kernel_rfl) (by kernel_rfl)) ?_
  intro W base args ds gs before hval0 hW hcnd hsz0 _
  have hsz : (DataW.weightsEach Try.prog (Try.f3.params.toList ++ Rows.boardDoesSpec.plain.varTypes Try.prog) (ds ++ gs)).all (· ≤ reachBytes) = true := hsz0
  have hval : ∀ (j : Nat) t v, Try.f3.params[j]? = some t → args[j]? = some v → Value.okWide Try.prog W .any base t v := hval0
  have hW' := hW
  obtain ⟨p, q, hA0, hV, rfl, hfz, hnd⟩ := hW
  have hA : DataW.TrodAll enc Try.prog W 0 (fun _ => true) true Try.f3.params.toList args.toList ds p := hA0
  rw [Try.params3] at hA hval hsz
  obtain ⟨v0, vs0, d0, ds0, p0, q0, hargs, rfl, rfl, h0, r0⟩ := trodAll_cons hA
  obtain ⟨v1, vs1, d1, ds1, p1, q1, rfl, rfl, rfl, h1, r1⟩ := trodAll_cons r0
  obtain ⟨v2, vs2, d2, ds2, p2, q2, rfl, rfl, rfl, h2, r2⟩ := trodAll_cons r1
  obtain ⟨v3, vs3, d3, ds3, p3, q3, rfl, rfl, rfl, h3, r3⟩ := trodAll_cons r2
  obtain ⟨v4, vs4, d4, ds4, p4, q4, rfl, rfl, rfl, h4, r4⟩ := trodAll_cons r3
  obtain ⟨v5, vs5, d5, ds5, p5, q5, rfl, rfl, rfl, h5, r5⟩ := trodAll_cons r4
  obtain ⟨rfl, rfl, rfl⟩ := trodAll_nil r5
  obtain rfl : args = #[v0, v1, v2, v3, v4, v5] := by cases args; simp_all
  obtain ⟨rfl, rfl⟩ := trodVars_none hV
  have lt0 : ∀ x ∈ p0, x.block < W.heap.size := by obtain ⟨m, hm⟩ := h0; exact DataW.trod_lt m _ _ _ hm
  obtain ⟨x0, K0, V0⟩ := Opens.arg opens24 hsz (j := 0) (t := 24) rfl rfl h0
  obtain ⟨cs0, hag0, _⟩ := okWide_struct Try.underlying24 (hval 0 24 v0 rfl rfl)
  obtain ⟨A0_2, c0_2, E0, hc0_2, hr0_2⟩ := k24_open K0
  obtain rfl := agg_of hag0 E0
  clear hag0 E0
  have lt1 : ∀ x ∈ p1, x.block < W.heap.size := by obtain ⟨m, hm⟩ := h1; exact DataW.trod_lt m _ _ _ hm
  obtain ⟨x1, K1, V1⟩ := Opens.arg opens28 hsz (j := 1) (t := 28) rfl rfl h1
  obtain ⟨cs1, hag1, _⟩ := okWide_struct Try.underlying28 (hval 1 28 v1 rfl rfl)
  have E1 := k28_open K1
  obtain rfl := agg_of hag1 E1
  clear hag1 E1
  have lt2 : ∀ x ∈ p2, x.block < W.heap.size := by obtain ⟨m, hm⟩ := h2; exact DataW.trod_lt m _ _ _ hm
  obtain ⟨x2, K2, V2⟩ := Opens.arg opens26 hsz (j := 2) (t := 26) rfl rfl h2
  obtain ⟨cs2, hag2, _⟩ := okWide_struct Try.underlying26 (hval 2 26 v2 rfl rfl)
  have E2 := k26_open K2
  obtain rfl := agg_of hag2 E2
  clear hag2 E2
  obtain ⟨x3, rfl, rfl, rfl, V3⟩ := open_int Try.underlying3 (hval 3 3 v3 rfl rfl) h3
  obtain ⟨x4, rfl, rfl, rfl, V4⟩ := open_int Try.underlying3 (hval 4 3 v4 rfl rfl) h4
  have lt5 : ∀ x ∈ p5, x.block < W.heap.size := by obtain ⟨m, hm⟩ := h5; exact DataW.trod_lt m _ _ _ hm
  obtain ⟨x5, K5, V5⟩ := Opens.arg (opens_slice (B := 8) Try.underlying29 (opens_int Try.underlying3) (by kernel_rfl) (by kernel_rfl)) hsz (j := 5) (t := 29) rfl rfl h5
  obtain ⟨b5, n5, m5, rfl⟩ := okWide_slice Try.underlying29 (hval 5 29 v5 rfl rfl)
  obtain ⟨A5, c5, E5, hc5, hr5⟩ := K5
  simp only [Value.cells, List.cons.injEq, Value.slice.injEq, and_true] at E5
  obtain ⟨rfl, rfl, rfl⟩ := E5
  clear hA0 hval0 hsz0 hsz
  obtain ⟨k, h⟩ := (Go.Proofs.Ytcfpbmdndapeaaa.F.BoardDoes_pure : watchmanlaw08_BoardDoes.Pure) x0.f0 x0.f1 x0.f2 x1.f0.f0 x1.f0.f1 x1.f1 x1.f2 x1.f3 x1.f4 x2.f0 x2.f1 x3 x4 x5 V0.1 V0.2.1 V0.2.2.1 V0.2.2.2 V1.1.1 V1.1.2 V1.2.1 V1.2.2.1 V1.2.2.2.1 V1.2.2.2.2 V2.1 V2.2 V3 V4 V5.1 V5.2
  refine (watchmanlaw08_BoardDoes.calls k x0.f0 x0.f1 _ _ x0.f2 x1.f0.f0 x1.f0.f1 x1.f1 x1.f2 x1.f3 x1.f4 x2.f0 x2.f1 x3 x4 _ _ x5 true W hr0_2 hc0_2 hr5 hc5 h).mono fun e W' hh => ?_
  obtain ⟨he, bel⟩ := hh
  subst he
  exact ⟨_, rfl, _, _, _, [], _, [], hW', trodAll_mk1 (shut_bool Try.underlying4 _), (trodAll_cons_mk (Below.trod laidOut (by kernel_rfl) (of_decide_eq_true (by kernel_rfl)) h0 bel lt0) (trodAll_cons_mk (Below.trod laidOut (by kernel_rfl) (of_decide_eq_true (by kernel_rfl)) h1 bel lt1) (trodAll_cons_mk (Below.trod laidOut (by kernel_rfl) (of_decide_eq_true (by kernel_rfl)) h2 bel lt2) (trodAll_cons_mk (shut_int Try.underlying3 V3) (trodAll_cons_mk (shut_int Try.underlying3 V4) (trodAll_cons_mk (Below.trod laidOut (by kernel_rfl) (of_decide_eq_true (by kernel_rfl)) h5 bel lt5) trodAll_mk0)))))), rfl, bel.frame _, fun h => by cases h⟩
theorem over : Rows.boardDoesRow.holds Try.pinned (OpenSpec.ofChange Rows.boardDoesSpec) :=
  OpenClaim.holds_of_wide 3 Try.f3 rfl rfl rfl rfl rfl rfl rfl ⟨rfl, rfl, rfl, rfl, rfl⟩ rfl rfl rfl rfl rfl (by kernel_rfl) Try.func3 (by kernel_rfl)
    (of_decide_eq_true (by kernel_rfl)) (by unfold Func.isWrapper; first | (rw [if_pos (by decide +kernel)]; kernel_rfl) | (rw [if_neg (by decide +kernel)]; exact ⟨rfl, rfl⟩))
    (fun os started H enc _ => lifted os started H enc)
theorem proved : Rows.BoardDoesSaid := over
#print axioms proved
end Go.Proofs.Ytcfpbmdndapeaaa.boardDoes
namespace Go.Proofs.Ytcfpbmdndapeaaa
/-- The row, under a short name, for the claim. -/
theorem boardDoes_holds : Rows.BoardDoesSaid := boardDoes.proved
end Go.Proofs.Ytcfpbmdndapeaaa
