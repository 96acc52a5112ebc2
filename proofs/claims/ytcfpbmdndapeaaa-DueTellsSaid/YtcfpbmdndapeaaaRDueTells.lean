/- The Go function 'watchmanlaw09.DueTells' returns true whatever its arguments hold, and leaves them as they were. No condition. -/
import Derived.Test.YtcfpbmdndapeaaaRows
import Derived.Test.YtcfpbmdndapeaaaQDueTells
import Derived.Test.YtcfpbmdndapeaaaPDueTells
import Derived.WalkKit
import Derived.ProofKit
import Derived.OpenShut
import Derived.ShutString
import Derived.ChangeOld
import Derived.Below
import Derived.SizedLaws
namespace Go.Proofs.Ytcfpbmdndapeaaa.dueTells
open Go.ChangeShapes Go.WideShapes Go.ChangeAt Go.RowKit Go.Proofs.YtcfpbmdndapeaaaV.PrintWords Go.Proofs.Ytcfpbmdndapeaaa.X Go.Proofs.Ytcfpbmdndapeaaa.F
open Go.ChangeMaps (open_string shut_string)
set_option linter.unusedVariables false
theorem own : ownKnob Try.prog.godebug = none := by kernel_rfl
theorem laidOut : laidOutB Try.prog = true := by kernel_rfl
set_option maxRecDepth 100000 in
set_option maxHeartbeats 1000000 in
theorem lifted (os : Os) (started : os.Started) (H : Type) (enc : TypeId × Value → H) :
    ReturnsInHanded {} Try.checked os 8 .any (Rows.dueTellsSpec.pre6 enc Try.prog Try.f8 Rows.dueTellsRow.domain false) (Rows.dueTellsSpec.post enc Try.prog Try.f8 false true false false) := by
  refine returnsInHanded_of_change_sized (C := Try.checked) own started (by kernel_rfl) Try.func8
    (ChangeSpec.witness6 (enc := enc) (C := Try.checked) false ⟨#[], #[.agg #[.int .i64 0, .int .i64 0, .slice none 0 0], .agg #[.int .i64 0, .int .i64 0], .int .i64 0, .slice none 0 0], []⟩ 8 (by kernel_rfl) (by kernel_rfl) (by kernel_rfl) (by kernel_rfl)) ?_
  intro W base args ds gs before hval0 hW hcnd hsz0 _
  have hsz : (DataW.weightsEach Try.prog (Try.f8.params.toList ++ Rows.dueTellsSpec.plain.varTypes Try.prog) (ds ++ gs)).all (· ≤ reachBytes) = true := hsz0
  have hval : ∀ (j : Nat) t v, Try.f8.params[j]? = some t → args[j]? = some v → Value.okWide Try.prog W .any base t v := hval0
  have hW' := hW
  obtain ⟨p, q, hA0, hV, rfl, hfz, hnd⟩ := hW
  have hA : DataW.TrodAll enc Try.prog W 0 (fun _ => true) true Try.f8.params.toList args.toList ds p := hA0
  rw [Try.params8] at hA hval hsz
  obtain ⟨v0, vs0, d0, ds0, p0, q0, hargs, rfl, rfl, h0, r0⟩ := trodAll_cons hA
  obtain ⟨v1, vs1, d1, ds1, p1, q1, rfl, rfl, rfl, h1, r1⟩ := trodAll_cons r0
  obtain ⟨v2, vs2, d2, ds2, p2, q2, rfl, rfl, rfl, h2, r2⟩ := trodAll_cons r1
  obtain ⟨v3, vs3, d3, ds3, p3, q3, rfl, rfl, rfl, h3, r3⟩ := trodAll_cons r2
  obtain ⟨rfl, rfl, rfl⟩ := trodAll_nil r3
  obtain rfl : args = #[v0, v1, v2, v3] := by cases args; simp_all
  obtain ⟨rfl, rfl⟩ := trodVars_none hV
  have lt0 : ∀ x ∈ p0, x.block < W.heap.size := by obtain ⟨m, hm⟩ := h0; exact DataW.trod_lt m _ _ _ hm
  obtain ⟨x0, K0, V0⟩ := Opens.arg opens24 hsz (j := 0) (t := 24) rfl rfl h0
  obtain ⟨cs0, hag0, _⟩ := okWide_struct Try.underlying24 (hval 0 24 v0 rfl rfl)
  obtain ⟨A0_2, c0_2, E0, hc0_2, hr0_2⟩ := k24_open K0
  obtain rfl := agg_of hag0 E0
  clear hag0 E0
  have lt1 : ∀ x ∈ p1, x.block < W.heap.size := by obtain ⟨m, hm⟩ := h1; exact DataW.trod_lt m _ _ _ hm
  obtain ⟨x1, K1, V1⟩ := Opens.arg opens26 hsz (j := 1) (t := 26) rfl rfl h1
  obtain ⟨cs1, hag1, _⟩ := okWide_struct Try.underlying26 (hval 1 26 v1 rfl rfl)
  have E1 := k26_open K1
  obtain rfl := agg_of hag1 E1
  clear hag1 E1
  obtain ⟨x2, rfl, rfl, rfl, V2⟩ := open_int Try.underlying3 (hval 2 3 v2 rfl rfl) h2
  have lt3 : ∀ x ∈ p3, x.block < W.heap.size := by obtain ⟨m, hm⟩ := h3; exact DataW.trod_lt m _ _ _ hm
  obtain ⟨x3, K3, V3⟩ := Opens.arg (opens_slice (B := 32) Try.underlying53 opens65 (by kernel_rfl) (by kernel_rfl)) hsz (j := 3) (t := 53) rfl rfl h3
  obtain ⟨b3, n3, m3, rfl⟩ := okWide_slice Try.underlying53 (hval 3 53 v3 rfl rfl)
  obtain ⟨A3, c3, E3, hc3, hr3⟩ := K3
  simp only [Value.cells, List.cons.injEq, Value.slice.injEq, and_true] at E3
  obtain ⟨rfl, rfl, rfl⟩ := E3
  clear hA0 hval0 hsz0 hsz
  obtain ⟨k, h⟩ := (Go.Proofs.Ytcfpbmdndapeaaa.F.DueTells_pure : watchmanlaw09_DueTells.Pure) x0.f0 x0.f1 x0.f2 x1.f0 x1.f1 x2 x3 V0.1 V0.2.1 V0.2.2.1 V0.2.2.2 V1.1 V1.2 V2 V3.1 V3.2
  refine (watchmanlaw09_DueTells.calls k x0.f0 x0.f1 _ _ x0.f2 x1.f0 x1.f1 x2 _ _ x3 true W hr0_2 hc0_2 hr3 hc3 h).mono fun e W' hh => ?_
  obtain ⟨he, bel⟩ := hh
  subst he
  exact ⟨_, rfl, _, _, _, [], _, [], hW', trodAll_mk1 (shut_bool Try.underlying4 _), (trodAll_cons_mk (Below.trod laidOut (by kernel_rfl) (of_decide_eq_true (by kernel_rfl)) h0 bel lt0) (trodAll_cons_mk (Below.trod laidOut (by kernel_rfl) (of_decide_eq_true (by kernel_rfl)) h1 bel lt1) (trodAll_cons_mk (shut_int Try.underlying3 V2) (trodAll_cons_mk (Below.trod laidOut (by kernel_rfl) (of_decide_eq_true (by kernel_rfl)) h3 bel lt3) trodAll_mk0)))), rfl, bel.frame _, fun h => by cases h⟩
theorem over : Rows.dueTellsRow.holds Try.pinned (OpenSpec.ofChange Rows.dueTellsSpec) :=
  OpenClaim.holds_of_wide 8 Try.f8 rfl rfl rfl rfl rfl rfl rfl ⟨rfl, rfl, rfl, rfl, rfl⟩ rfl rfl rfl rfl rfl (by kernel_rfl) Try.func8 (by kernel_rfl)
    (of_decide_eq_true (by kernel_rfl)) (by unfold Func.isWrapper; first | (rw [if_pos (by decide +kernel)]; kernel_rfl) | (rw [if_neg (by decide +kernel)]; exact ⟨rfl, rfl⟩))
    (fun os started H enc _ => lifted os started H enc)
theorem proved : Rows.DueTellsSaid := over
#print axioms proved
end Go.Proofs.Ytcfpbmdndapeaaa.dueTells
namespace Go.Proofs.Ytcfpbmdndapeaaa
/-- The row, under a short name, for the claim. -/
theorem dueTells_holds : Rows.DueTellsSaid := dueTells.proved
end Go.Proofs.Ytcfpbmdndapeaaa
