/- The Go function 'watchmanlaw23.LogDoes' returns true whatever its arguments hold, and leaves them as they were. No condition. -/
import Derived.Test.YtncoccpgdgdknaaRows
import Derived.Test.YtncoccpgdgdknaaQLogDoes
import Derived.Test.YtncoccpgdgdknaaPLogDoes
import Derived.WalkKit
import Derived.ProofKit
import Derived.OpenShut
import Derived.ShutString
import Derived.ChangeOld
import Derived.Below
import Derived.SizedLaws
namespace Go.Proofs.Ytncoccpgdgdknaa.logDoes
open Go.ChangeShapes Go.WideShapes Go.ChangeAt Go.RowKit Go.Proofs.YtncoccpgdgdknaaV.PrintWords Go.Proofs.Ytncoccpgdgdknaa.X Go.Proofs.Ytncoccpgdgdknaa.F
open Go.ChangeMaps (open_string shut_string)
set_option linter.unusedVariables false
theorem own : ownKnob Try.prog.godebug = none := by kernel_rfl
theorem laidOut : laidOutB Try.prog = true := by kernel_rfl
set_option maxRecDepth 100000 in
set_option maxHeartbeats 1000000 in
theorem lifted (os : Os) (started : os.Started) (H : Type) (enc : TypeId × Value → H) :
    ReturnsInHanded {} Try.checked os 6 .any (Rows.logDoesSpec.pre6 enc Try.prog Try.f6 Rows.logDoesRow.domain false) (Rows.logDoesSpec.post enc Try.prog Try.f6 false true false false) := by
  refine returnsInHanded_of_change_sized (C := Try.checked) own started (by kernel_rfl) Try.func6
    (ChangeSpec.witness6 (enc := enc) (C := Try.checked) false ⟨#[], #[.slice none 0 0, .slice none 0 0, .int .i64 0, .string ByteArray.empty, .slice none 0 0, .agg #[.int .i64 0, .int .i64 0, .int .i64 0, .slice none 0 0]], []⟩ 8 (by kernel_rfl) (by kernel_rfl) (by kernel_rfl) (by kernel_rfl)) ?_
  intro W base args ds gs before hval0 hW hcnd hsz0 _
  have hsz : (DataW.weightsEach Try.prog (Try.f6.params.toList ++ Rows.logDoesSpec.plain.varTypes Try.prog) (ds ++ gs)).all (· ≤ reachBytes) = true := hsz0
  have hval : ∀ (j : Nat) t v, Try.f6.params[j]? = some t → args[j]? = some v → Value.okWide Try.prog W .any base t v := hval0
  have hW' := hW
  obtain ⟨p, q, hA0, hV, rfl, hfz, hnd⟩ := hW
  have hA : DataW.TrodAll enc Try.prog W 0 (fun _ => true) true Try.f6.params.toList args.toList ds p := hA0
  rw [Try.params6] at hA hval hsz
  obtain ⟨v0, vs0, d0, ds0, p0, q0, hargs, rfl, rfl, h0, r0⟩ := trodAll_cons hA
  obtain ⟨v1, vs1, d1, ds1, p1, q1, rfl, rfl, rfl, h1, r1⟩ := trodAll_cons r0
  obtain ⟨v2, vs2, d2, ds2, p2, q2, rfl, rfl, rfl, h2, r2⟩ := trodAll_cons r1
  obtain ⟨v3, vs3, d3, ds3, p3, q3, rfl, rfl, rfl, h3, r3⟩ := trodAll_cons r2
  obtain ⟨v4, vs4, d4, ds4, p4, q4, rfl, rfl, rfl, h4, r4⟩ := trodAll_cons r3
  obtain ⟨v5, vs5, d5, ds5, p5, q5, rfl, rfl, rfl, h5, r5⟩ := trodAll_cons r4
  obtain ⟨rfl, rfl, rfl⟩ := trodAll_nil r5
  obtain rfl : args = #[v0, v1, v2, v3, v4, v5] := by cases args; simp_all
  obtain ⟨rfl, rfl⟩ := trodVars_none hV
  have lt0 : ∀ x ∈ p0, x.block < W.heap.size := by obtain ⟨m, hm⟩ := h0; exact DataW.trod_lt m _ _ _ hm
  obtain ⟨x0, K0, V0⟩ := Opens.arg (opens_slice (B := 16) Try.underlying22 (opens_string Try.underlying9) (by kernel_rfl) (by kernel_rfl)) hsz (j := 0) (t := 22) rfl rfl h0
  obtain ⟨b0, n0, m0, rfl⟩ := okWide_slice Try.underlying22 (hval 0 22 v0 rfl rfl)
  obtain ⟨A0, c0, E0, hc0, hr0⟩ := K0
  simp only [Value.cells, List.cons.injEq, Value.slice.injEq, and_true] at E0
  obtain ⟨rfl, rfl, rfl⟩ := E0
  have lt1 : ∀ x ∈ p1, x.block < W.heap.size := by obtain ⟨m, hm⟩ := h1; exact DataW.trod_lt m _ _ _ hm
  obtain ⟨x1, K1, V1⟩ := Opens.arg (opens_slice (B := 16) Try.underlying22 (opens_string Try.underlying9) (by kernel_rfl) (by kernel_rfl)) hsz (j := 1) (t := 22) rfl rfl h1
  obtain ⟨b1, n1, m1, rfl⟩ := okWide_slice Try.underlying22 (hval 1 22 v1 rfl rfl)
  obtain ⟨A1, c1, E1, hc1, hr1⟩ := K1
  simp only [Value.cells, List.cons.injEq, Value.slice.injEq, and_true] at E1
  obtain ⟨rfl, rfl, rfl⟩ := E1
  obtain ⟨x2, rfl, rfl, rfl, V2⟩ := open_int Try.underlying3 (hval 2 3 v2 rfl rfl) h2
  obtain ⟨x3, rfl, rfl, rfl, y3⟩ := open_string Try.underlying9 (hval 3 9 v3 rfl rfl) h3
  have V3 : x3.size ≤ 140737488351232 := by
    have z := sized_string hsz (j := 3) (t := 9) rfl rfl
    rw [Array.length_toList] at z
    exact z
  have lt4 : ∀ x ∈ p4, x.block < W.heap.size := by obtain ⟨m, hm⟩ := h4; exact DataW.trod_lt m _ _ _ hm
  obtain ⟨x4, K4, V4⟩ := Opens.arg (opens_slice (B := 48) Try.underlying34 opens36 (by kernel_rfl) (by kernel_rfl)) hsz (j := 4) (t := 34) rfl rfl h4
  obtain ⟨b4, n4, m4, rfl⟩ := okWide_slice Try.underlying34 (hval 4 34 v4 rfl rfl)
  obtain ⟨A4, c4, E4, hc4, hr4⟩ := K4
  simp only [Value.cells, List.cons.injEq, Value.slice.injEq, and_true] at E4
  obtain ⟨rfl, rfl, rfl⟩ := E4
  have lt5 : ∀ x ∈ p5, x.block < W.heap.size := by obtain ⟨m, hm⟩ := h5; exact DataW.trod_lt m _ _ _ hm
  obtain ⟨x5, K5, V5⟩ := Opens.arg opens36 hsz (j := 5) (t := 36) rfl rfl h5
  obtain ⟨cs5, hag5, _⟩ := okWide_struct Try.underlying36 (hval 5 36 v5 rfl rfl)
  obtain ⟨A5_3, c5_3, E5, hc5_3, hr5_3⟩ := k36_open K5
  obtain rfl := agg_of hag5 E5
  clear hag5 E5
  clear hA0 hval0 hsz0 hsz
  obtain ⟨k, h⟩ := (Go.Proofs.Ytncoccpgdgdknaa.F.LogDoes_pure : watchmanlaw23_LogDoes.Pure) x0 x1 x2 x3 x4 x5.f0 x5.f1 x5.f2 x5.f3 V0.1 V0.2 V1.1 V1.2 V2 V3 V4.1 V4.2 V5.1 V5.2.1 V5.2.2.1 V5.2.2.2.1 V5.2.2.2.2
  refine (watchmanlaw23_LogDoes.calls k _ _ x0 _ _ x1 x2 x3 _ _ x4 x5.f0 x5.f1 x5.f2 _ _ x5.f3 true W hr0 hc0 hr1 hc1 hr4 hc4 hr5_3 hc5_3 h).mono fun e W' hh => ?_
  obtain ⟨he, bel⟩ := hh
  subst he
  exact ⟨_, rfl, _, _, _, [], _, [], hW', trodAll_mk1 (shut_bool Try.underlying4 _), (trodAll_cons_mk (Below.trod laidOut (by kernel_rfl) (of_decide_eq_true (by kernel_rfl)) h0 bel lt0) (trodAll_cons_mk (Below.trod laidOut (by kernel_rfl) (of_decide_eq_true (by kernel_rfl)) h1 bel lt1) (trodAll_cons_mk (shut_int Try.underlying3 V2) (trodAll_cons_mk (shut_string Try.underlying9 y3) (trodAll_cons_mk (Below.trod laidOut (by kernel_rfl) (of_decide_eq_true (by kernel_rfl)) h4 bel lt4) (trodAll_cons_mk (Below.trod laidOut (by kernel_rfl) (of_decide_eq_true (by kernel_rfl)) h5 bel lt5) trodAll_mk0)))))), rfl, bel.frame _, fun h => by cases h⟩
theorem over : Rows.logDoesRow.holds Try.pinned (OpenSpec.ofChange Rows.logDoesSpec) :=
  OpenClaim.holds_of_wide 6 Try.f6 rfl rfl rfl rfl rfl rfl rfl ⟨rfl, rfl, rfl, rfl, rfl⟩ rfl rfl rfl rfl rfl (by kernel_rfl) Try.func6 (by kernel_rfl)
    (of_decide_eq_true (by kernel_rfl)) (by unfold Func.isWrapper; first | (rw [if_pos (by decide +kernel)]; kernel_rfl) | (rw [if_neg (by decide +kernel)]; exact ⟨rfl, rfl⟩))
    (fun os started H enc _ => lifted os started H enc)
theorem proved : Rows.LogDoesSaid := over
#print axioms proved
end Go.Proofs.Ytncoccpgdgdknaa.logDoes
namespace Go.Proofs.Ytncoccpgdgdknaa
/-- The row, under a short name, for the claim. -/
theorem logDoes_holds : Rows.LogDoesSaid := logDoes.proved
end Go.Proofs.Ytncoccpgdgdknaa
