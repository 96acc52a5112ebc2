-- Written by a program of this session (xprint.py), out of the translation and of contracts proved by hand.
import Derived.Test.YtncoccpgdgdknaaF0
import Derived.Test.YtncoccpgdgdknaaOpen
import Derived.KernelRfl
namespace Go.Proofs.Ytncoccpgdgdknaa.F
open Go.RowKit Go.Proofs.YtncoccpgdgdknaaV.PrintWords Go.Proofs.YtncoccpgdgdknaaV.PrintLast Go.Proofs.Ytncoccpgdgdknaa.X
set_option linter.unusedVariables false
def v36 (x : S36) : Prop := (Lit.int .i64 x.f0).wf = true ∧ (Lit.int .i64 x.f1).wf = true ∧ (Lit.int .i64 x.f2).wf = true ∧ (x.f3.length * 16 ≤ 140737488351232 ∧ ∀ y ∈ x.f3, y.size ≤ 140737488351232)
theorem opens36 : Opens Try.prog 36 k36 v36 :=
  Opens.imp (opens_struct Try.underlying36 (opensF_cons rfl (by kernel_rfl) (opens_int Try.underlying3) (opensF_cons rfl (by kernel_rfl) (opens_int Try.underlying3) (opensF_cons rfl (by kernel_rfl) (opens_int Try.underlying3) (opensF_one rfl (by kernel_rfl) (opens_slice (B := 16) Try.underlying22 (opens_string Try.underlying9) (by kernel_rfl) (by kernel_rfl)))))) (by kernel_rfl) (fun a => ⟨⟨a.1, a.2.1, a.2.2.1, a.2.2.2⟩, rfl⟩)) (fun _ h => h)
end Go.Proofs.Ytncoccpgdgdknaa.F
