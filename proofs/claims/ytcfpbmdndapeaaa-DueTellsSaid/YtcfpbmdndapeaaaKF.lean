-- Written by a program of this session (xprint.py), out of the translation and of contracts proved by hand.
import Derived.Test.YtcfpbmdndapeaaaF0
import Derived.Test.YtcfpbmdndapeaaaOpen
import Derived.KernelRfl
namespace Go.Proofs.Ytcfpbmdndapeaaa.F
open Go.RowKit Go.Proofs.YtcfpbmdndapeaaaV.PrintWords Go.Proofs.YtcfpbmdndapeaaaV.PrintLast Go.Proofs.Ytcfpbmdndapeaaa.X
set_option linter.unusedVariables false
def v26 (x : S26) : Prop := (Lit.int .i64 x.f0).wf = true ∧ (Lit.int .i64 x.f1).wf = true
theorem opens26 : Opens Try.prog 26 k26 v26 :=
  Opens.imp (opens_struct Try.underlying26 (opensF_cons rfl (by kernel_rfl) (opens_int Try.underlying3) (opensF_one rfl (by kernel_rfl) (opens_int Try.underlying3))) (by kernel_rfl) (fun a => ⟨⟨a.1, a.2⟩, rfl⟩)) (fun _ h => h)
def v28 (x : S28) : Prop := v26 x.f0 ∧ (Lit.int .i64 x.f1).wf = true ∧ (Lit.int .i64 x.f2).wf = true ∧ (Lit.int .i64 x.f3).wf = true ∧ (Lit.int .i64 x.f4).wf = true
theorem opens28 : Opens Try.prog 28 k28 v28 :=
  Opens.imp (opens_struct Try.underlying28 (opensF_cons rfl (by kernel_rfl) opens26 (opensF_cons rfl (by kernel_rfl) (opens_int Try.underlying3) (opensF_cons rfl (by kernel_rfl) (opens_int Try.underlying3) (opensF_cons rfl (by kernel_rfl) (opens_int Try.underlying3) (opensF_one rfl (by kernel_rfl) (opens_int Try.underlying3)))))) (by kernel_rfl) (fun a => ⟨⟨a.1, a.2.1, a.2.2.1, a.2.2.2.1, a.2.2.2.2⟩, rfl⟩)) (fun _ h => h)
def v24 (x : S24) : Prop := (Lit.int .i64 x.f0).wf = true ∧ (Lit.int .i64 x.f1).wf = true ∧ (x.f2.length * 48 ≤ 140737488351232 ∧ ∀ y ∈ x.f2, v28 y)
theorem opens24 : Opens Try.prog 24 k24 v24 :=
  Opens.imp (opens_struct Try.underlying24 (opensF_cons rfl (by kernel_rfl) (opens_int Try.underlying3) (opensF_cons rfl (by kernel_rfl) (opens_int Try.underlying3) (opensF_one rfl (by kernel_rfl) (opens_slice (B := 48) Try.underlying22 opens28 (by kernel_rfl) (by kernel_rfl))))) (by kernel_rfl) (fun a => ⟨⟨a.1, a.2.1, a.2.2⟩, rfl⟩)) (fun _ h => h)
def v65 (x : S65) : Prop := (Lit.int .i64 x.f0).wf = true ∧ v26 x.f1 ∧ (Lit.int .i64 x.f2).wf = true
theorem opens65 : Opens Try.prog 65 k65 v65 :=
  Opens.imp (opens_struct Try.underlying65 (opensF_cons rfl (by kernel_rfl) (opens_int Try.underlying3) (opensF_cons rfl (by kernel_rfl) opens26 (opensF_one rfl (by kernel_rfl) (opens_int Try.underlying3)))) (by kernel_rfl) (fun a => ⟨⟨a.1, a.2.1, a.2.2⟩, rfl⟩)) (fun _ h => h)
end Go.Proofs.Ytcfpbmdndapeaaa.F
