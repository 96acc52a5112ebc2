-- Written by a program of this session (xprint.py), out of the translation and of contracts proved by hand.
import Derived.Test.YtofbkpdpgmjllaaF0
import Derived.Test.YtofbkpdpgmjllaaOpen
import Derived.KernelRfl
namespace Go.Proofs.Ytofbkpdpgmjllaa.F
open Go.RowKit Go.Proofs.YtofbkpdpgmjllaaV.PrintWords Go.Proofs.YtofbkpdpgmjllaaV.PrintLast Go.Proofs.Ytofbkpdpgmjllaa.X
set_option linter.unusedVariables false
def v35 (x : S35) : Prop := (Lit.int .i64 x.f0).wf = true ∧ (Lit.int .i64 x.f1).wf = true ∧ (Lit.int .i64 x.f2).wf = true ∧ x.f3.size ≤ 140737488351232
theorem opens35 : Opens Try.prog 35 k35 v35 :=
  Opens.imp (opens_struct Try.underlying35 (opensF_cons rfl (by kernel_rfl) (opens_int Try.underlying3) (opensF_cons rfl (by kernel_rfl) (opens_int Try.underlying3) (opensF_cons rfl (by kernel_rfl) (opens_int Try.underlying3) (opensF_one rfl (by kernel_rfl) (opens_string Try.underlying9))))) (by kernel_rfl) (fun a => ⟨⟨a.1, a.2.1, a.2.2.1, a.2.2.2⟩, rfl⟩)) (fun _ h => h)
def v24 (x : S24) : Prop := (Lit.int .i64 x.f0).wf = true ∧ (x.f1.length * 40 ≤ 140737488351232 ∧ ∀ y ∈ x.f1, v35 y)
theorem opens24 : Opens Try.prog 24 k24 v24 :=
  Opens.imp (opens_struct Try.underlying24 (opensF_cons rfl (by kernel_rfl) (opens_int Try.underlying3) (opensF_one rfl (by kernel_rfl) (opens_slice (B := 40) Try.underlying22 opens35 (by kernel_rfl) (by kernel_rfl)))) (by kernel_rfl) (fun a => ⟨⟨a.1, a.2⟩, rfl⟩)) (fun _ h => h)
end Go.Proofs.Ytofbkpdpgmjllaa.F
