-- Written by a program of this session (xprint.py), out of the translation and of contracts proved by hand.
import Derived.Test.YtkhdpmbjjcmooaaF0
import Derived.Test.YtkhdpmbjjcmooaaOpen
import Derived.KernelRfl
namespace Go.Proofs.Ytkhdpmbjjcmooaa.F
open Go.RowKit Go.Proofs.YtkhdpmbjjcmooaaV.PrintWords Go.Proofs.YtkhdpmbjjcmooaaV.PrintLast Go.Proofs.Ytkhdpmbjjcmooaa.X
set_option linter.unusedVariables false
def v26 (x : S26) : Prop := (Lit.int .i64 x.f0).wf = true ∧ (Lit.int .i64 x.f1).wf = true ∧ (x.f2.length * 16 ≤ 140737488351232 ∧ ∀ y ∈ x.f2, y.size ≤ 140737488351232)
theorem opens26 : Opens Try.prog 26 k26 v26 :=
  Opens.imp (opens_struct Try.underlying26 (opensF_cons rfl (by kernel_rfl) (opens_int Try.underlying23) (opensF_cons rfl (by kernel_rfl) (opens_int Try.underlying3) (opensF_one rfl (by kernel_rfl) (opens_slice (B := 16) Try.underlying24 (opens_string Try.underlying9) (by kernel_rfl) (by kernel_rfl))))) (by kernel_rfl) (fun a => ⟨⟨a.1, a.2.1, a.2.2⟩, rfl⟩)) (fun _ h => h)
def v39 (x : S39) : Prop := (Lit.int .i64 x.f0).wf = true ∧ (Lit.int .i64 x.f1).wf = true ∧ (Lit.int .i64 x.f2).wf = true ∧ v26 x.f3
theorem opens39 : Opens Try.prog 39 k39 v39 :=
  Opens.imp (opens_struct Try.underlying39 (opensF_cons rfl (by kernel_rfl) (opens_int Try.underlying3) (opensF_cons rfl (by kernel_rfl) (opens_int Try.underlying3) (opensF_cons rfl (by kernel_rfl) (opens_int Try.underlying3) (opensF_one rfl (by kernel_rfl) opens26)))) (by kernel_rfl) (fun a => ⟨⟨a.1, a.2.1, a.2.2.1, a.2.2.2⟩, rfl⟩)) (fun _ h => h)
end Go.Proofs.Ytkhdpmbjjcmooaa.F
