-- Written by a program of this session (xprint.py), out of the translation and of contracts proved by hand.
import Derived.Test.YtlleifklioamlaaF0
import Derived.Test.YtlleifklioamlaaOpen
import Derived.KernelRfl
namespace Go.Proofs.Ytlleifklioamlaa.F
open Go.RowKit Go.Proofs.YtlleifklioamlaaV.PrintWords Go.Proofs.YtlleifklioamlaaV.PrintLast Go.Proofs.Ytlleifklioamlaa.X
set_option linter.unusedVariables false
def v23 (x : S23) : Prop := (Lit.int .i64 x.f0).wf = true ∧ (Lit.int .i64 x.f1).wf = true
theorem opens23 : Opens Try.prog 23 k23 v23 :=
  Opens.imp (opens_struct Try.underlying23 (opensF_cons rfl (by kernel_rfl) (opens_int Try.underlying3) (opensF_one rfl (by kernel_rfl) (opens_int Try.underlying3))) (by kernel_rfl) (fun a => ⟨⟨a.1, a.2⟩, rfl⟩)) (fun _ h => h)
def v25 (x : S25) : Prop := v23 x.f0 ∧ (Lit.int .i64 x.f1).wf = true ∧ (Lit.int .i64 x.f2).wf = true ∧ (Lit.int .i64 x.f3).wf = true ∧ (Lit.int .i64 x.f4).wf = true
theorem opens25 : Opens Try.prog 25 k25 v25 :=
  Opens.imp (opens_struct Try.underlying25 (opensF_cons rfl (by kernel_rfl) opens23 (opensF_cons rfl (by kernel_rfl) (opens_int Try.underlying3) (opensF_cons rfl (by kernel_rfl) (opens_int Try.underlying3) (opensF_cons rfl (by kernel_rfl) (opens_int Try.underlying3) (opensF_one rfl (by kernel_rfl) (opens_int Try.underlying3)))))) (by kernel_rfl) (fun a => ⟨⟨a.1, a.2.1, a.2.2.1, a.2.2.2.1, a.2.2.2.2⟩, rfl⟩)) (fun _ h => h)
end Go.Proofs.Ytlleifklioamlaa.F
