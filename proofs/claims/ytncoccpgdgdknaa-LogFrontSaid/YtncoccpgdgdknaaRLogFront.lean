/- The Go function 'watchmanlaw23.LogFront' returns true whatever its arguments hold, and leaves them as they were. No condition. -/
import Derived.Test.YtncoccpgdgdknaaRows
import Derived.Test.YtncoccpgdgdknaaQLogFront
import Derived.Test.YtncoccpgdgdknaaPLogFront
import Derived.WalkKit
import Derived.ProofKit
import Derived.OpenShut
import Derived.ShutString
import Derived.ChangeOld
import Derived.Below
import Derived.SizedLaws
namespace Go.Proofs.Ytncoccpgdgdknaa.logFront
open Go.ChangeShapes Go.WideShapes Go.ChangeAt Go.RowKit Go.Proofs.YtncoccpgdgdknaaW.PrintWords Go.Proofs.Ytncoccpgdgdknaa.X Go.Proofs.Ytncoccpgdgdknaa.F
open Go.ChangeMaps (open_string shut_string)
set_option linter.unusedVariables false
theorem own : ownKnob Try.prog.godebug = none := by kernel_rfl
theorem laidOut : laidOutB Try.prog = true := by kernel_rfl
set_option maxRecDepth 100000 in
set_option maxHeartbeats 1000000 in
theorem lifted (os : Os) (started : os.Started) (H : Type) (enc : TypeId × Value → H) :
    ReturnsInHanded {} Try.checked os 3 .any (Rows.logFrontSpec.pre6 enc Try.prog Try.f3 Rows.logFrontRow.domain false) (Rows.logFrontSpec.post enc Try.prog Try.f3 false true false false) := by
  refine returnsInHanded_of_change_sized (C := Try.checked) own started (by kernel_rfl) Try.func3
    (ChangeSpec.witness6 (enc := enc) (C := Try.checked) false ⟨#[], #[.slice none 0 0, .slice none 0 0, .slice none 0 0], []⟩ 8 (by kernel_rfl) (by kernel_rfl) (by kernel_rfl) (by kernel_rfl)) ?_
  intro W base args ds gs before hval0 hW hcnd hsz0 _
  have hsz : (DataW.weightsEach Try.prog (Try.f3.params.toList ++ Rows.logFrontSpec.plain.varTypes Try.prog) (ds ++ gs)).all (· ≤ reachBytes) = true := hsz0
  have hval : ∀ (j : Nat) t v, Try.f3.params[j]? = some t → args[j]? = some v → Value.okWide Try.prog W .any base t v := hval0
  have hW' := hW
  obtain ⟨p, q, hA0, hV, rfl, hfz, hnd⟩ := hW
  have hA : DataW.TrodAll enc Try.prog W 0 (fun _ => true) true Try.f3.params.toList args.toList ds p := hA0
  rw [Try.params3] at hA hval hsz
  obtain ⟨v0, vs0, d0, ds0, p0, q0, hargs, rfl, rfl, h0, r0⟩ := trodAll_cons hA
  obtain ⟨v1, vs1, d1, ds1, p1, q1, rfl, rfl, rfl, h1, r1⟩ := trodAll_cons r0
  obtain ⟨v2, vs2, d2, ds2, p2, q2, rfl, rfl, rfl, h2, r2⟩ := trodAll_cons r1
  obtain ⟨rfl, rfl, rfl⟩ := trodAll_nil r2
  obtain rfl : args = #[v0, v1, v2] := by cases args; simp_all
  obtain ⟨rfl, rfl⟩ := trodVars_none hV
  have lt0 : ∀ x ∈ p0, x.block < W.heap.size := by obtain ⟨m, hm⟩ := h0; exact DataW.trod_lt m _ _ _ hm
  obtain ⟨x0, K0, V0⟩ := Opens.arg (opens_slice (B := 16) Try.underlying22 (opens_string Try.underlying9) (by kernel_rfl) (by kernel_rfl)) hsz (j := 0) (t := 22) rfl rfl h0
  obtain ⟨b0, n0, m0, rfl⟩ := okWide_slice Try.underlying22 (hval 0 22 v0 rfl rfl)
  obtain ⟨A0, c0, E0, hc0, hr0⟩ := K0
  simp only [Value.cells, List.cons.injEq, Value.slice.injEq, and_true] at E0
  obtain ⟨rfl, rfl, rfl⟩ := E0
  have lt1 : ∀ x ∈ p1, x.block < W.heap.size := by obtain ⟨m, hm⟩ := h1; exact DataW.trod_lt m _ _ _ hm
  obtain ⟨x1, K1, V1⟩ := Opens.arg (opens_slice (B := 16) Try.underlying22 (opens_string Try.underlying9) (by kernel_rfl) (by kernel_rfl)) hsz (j := 1) (t := 22) rfl rfl h1
  obtain ⟨b1, n1, m1, rfl⟩ := okWide_slice Try.underlying22 (hval 1 22 v1 rfl rfl)
  obtain ⟨A1, c1, E1, hc1, hr1⟩ := K1
  simp only [Value.cells, List.cons.injEq, Value.slice.injEq, and_true] at E1
  obtain ⟨rfl, rfl, rfl⟩ := E1
  have lt2 : ∀ x ∈ p2, x.block < W.heap.size := by obtain ⟨m, hm⟩ := h2; exact DataW.trod_lt m _ _ _ hm
  obtain ⟨x2, K2, V2⟩ := Opens.arg (opens_slice (B := 16) Try.underlying22 (opens_string Try.underlying9) (by kernel_rfl) (by kernel_rfl)) hsz (j := 2) (t := 22) rfl rfl h2
  obtain ⟨b2, n2, m2, rfl⟩ := okWide_slice Try.underlying22 (hval 2 22 v2 rfl rfl)
  obtain ⟨A2, c2, E2, hc2, hr2⟩ := K2
  simp only [Value.cells, List.cons.injEq, Value.slice.injEq, and_true] at E2
  obtain ⟨rfl, rfl, rfl⟩ := E2
  clear hA0 hval0 hsz0 hsz
  obtain ⟨k, h⟩ := (Go.Proofs.Ytncoccpgdgdknaa.F.LogFront_pure : watchmanlaw23_LogFront.Pure) x0 x1 x2 V0.1 V0.2 V1.1 V1.2 V2.1 V2.2
  refine (watchmanlaw23_LogFront.calls k (fun k_ => k_ < W.heap.size) _ _ x0 (fun k_ => k_ < W.heap.size) _ _ x1 _ _ x2 true W (Kd.V_mk hc0 (Kd.C_F Kd.heap_string hr0)) (Kd.V_mk hc1 (Kd.C_F Kd.heap_string hr1)) hr2 hc2 h).mono fun e W' hh => ?_
  obtain ⟨he, bel⟩ := hh
  subst he
  exact ⟨_, rfl, _, _, _, [], _, [], hW', trodAll_mk1 (shut_bool Try.underlying4 _), (trodAll_cons_mk (Below.trod laidOut (by kernel_rfl) (of_decide_eq_true (by kernel_rfl)) h0 bel lt0) (trodAll_cons_mk (Below.trod laidOut (by kernel_rfl) (of_decide_eq_true (by kernel_rfl)) h1 bel lt1) (trodAll_cons_mk (Below.trod laidOut (by kernel_rfl) (of_decide_eq_true (by kernel_rfl)) h2 bel lt2) trodAll_mk0))), rfl, bel.frame _, fun h => by cases h⟩
theorem over : Rows.logFrontRow.holds Try.pinned (OpenSpec.ofChange Rows.logFrontSpec) :=
  OpenClaim.holds_of_wide 3 Try.f3 rfl rfl rfl rfl rfl rfl rfl ⟨rfl, rfl, rfl, rfl, rfl⟩ rfl rfl rfl rfl rfl (by kernel_rfl) Try.func3 (by kernel_rfl)
    (of_decide_eq_true (by kernel_rfl)) (by unfold Func.isWrapper; first | (rw [if_pos (by decide +kernel)]; kernel_rfl) | (rw [if_neg (by decide +kernel)]; exact ⟨rfl, rfl⟩))
    (fun os started H enc _ => lifted os started H enc)
theorem proved : Rows.LogFrontSaid := over
#print axioms proved
end Go.Proofs.Ytncoccpgdgdknaa.logFront
namespace Go.Proofs.Ytncoccpgdgdknaa
/-- The row, under a short name, for the claim. -/
theorem logFront_holds : Rows.LogFrontSaid := logFront.proved
end Go.Proofs.Ytncoccpgdgdknaa
