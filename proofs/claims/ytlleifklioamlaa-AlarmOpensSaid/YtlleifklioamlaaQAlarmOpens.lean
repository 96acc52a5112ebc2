-- Written by a program of this session (xprint.py), out of the translation and of contracts proved by hand.
import Derived.Test.YtlleifklioamlaaF18
import Derived.Test.YtlleifklioamlaaKF
namespace Go.Proofs.Ytlleifklioamlaa.F
open Go.RowKit Go.Proofs.YtlleifklioamlaaV.PrintWords Go.Proofs.YtlleifklioamlaaV.PrintLast
/-- The pure statement of the law: over numbers, texts and lists alone. -/
def watchmanlaw06_AlarmOpens.Pure : Prop := ∀ (a0_0 : Int) (a0_1 : Int) (a1_0 : Int) (a1_1 : Int) (a1_2 : Int) (a1_3 : Int) (a1_4 : Int) (a1_5 : Int) (a2 : Int) (a3 : Int), (Lit.int .i64 a0_0).wf = true → (Lit.int .i64 a0_1).wf = true → (Lit.int .i64 a1_0).wf = true → (Lit.int .i64 a1_1).wf = true → (Lit.int .i64 a1_2).wf = true → (Lit.int .i64 a1_3).wf = true → (Lit.int .i64 a1_4).wf = true → (Lit.int .i64 a1_5).wf = true → (Lit.int .i64 a2).wf = true → (Lit.int .i64 a3).wf = true → ∃ k, watchmanlaw06_AlarmOpens.f k a0_0 a0_1 a1_0 a1_1 a1_2 a1_3 a1_4 a1_5 a2 a3 = some true
end Go.Proofs.Ytlleifklioamlaa.F
