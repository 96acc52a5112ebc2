-- Written by a program of this session (xprint.py), out of the translation and of contracts proved by hand.
import Derived.Test.YtlleifklioamlaaF20
import Derived.Test.YtlleifklioamlaaKF
namespace Go.Proofs.Ytlleifklioamlaa.F
open Go.RowKit Go.Proofs.YtlleifklioamlaaV.PrintWords Go.Proofs.YtlleifklioamlaaV.PrintLast
/-- The pure statement of the law: over numbers, texts and lists alone. -/
def watchmanlaw06_AlarmTwice.Pure : Prop := ∀ (a0_0 : Int) (a0_1 : Int) (a0_2 : Int) (a0_3 : Int) (a0_4 : Int) (a0_5 : Int) (a1 : Int) (a2 : Int) (a3 : Int), (Lit.int .i64 a0_0).wf = true → (Lit.int .i64 a0_1).wf = true → (Lit.int .i64 a0_2).wf = true → (Lit.int .i64 a0_3).wf = true → (Lit.int .i64 a0_4).wf = true → (Lit.int .i64 a0_5).wf = true → (Lit.int .i64 a1).wf = true → (Lit.int .i64 a2).wf = true → (Lit.int .i64 a3).wf = true → ∃ k, watchmanlaw06_AlarmTwice.f k a0_0 a0_1 a0_2 a0_3 a0_4 a0_5 a1 a2 a3 = some true
end Go.Proofs.Ytlleifklioamlaa.F
