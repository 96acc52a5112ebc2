-- Written by a program of this session (xprint.py), out of the translation and of contracts proved by hand.
import Derived.Test.YtofbkpdpgmjllaaF14
import Derived.Test.YtofbkpdpgmjllaaKF
namespace Go.Proofs.Ytofbkpdpgmjllaa.F
open Go.RowKit Go.Proofs.YtofbkpdpgmjllaaW.PrintWords Go.Proofs.YtofbkpdpgmjllaaW.PrintLast
/-- The pure statement of the law: over numbers, texts and lists alone. -/
def watchmanlaw21_PostOnly.Pure : Prop := ∀ (a0_0 : Int) (l0_1 : List (S35)) (l1 : List Int), (Lit.int .i64 a0_0).wf = true → l0_1.length * 40 ≤ 140737488351232 → (∀ y ∈ l0_1, v35 y) → l1.length * 8 ≤ 140737488351232 → (∀ y ∈ l1, (Lit.int .i64 y).wf = true) → ∃ k, watchmanlaw21_PostOnly.f k a0_0 l0_1 l1 = some true
end Go.Proofs.Ytofbkpdpgmjllaa.F
