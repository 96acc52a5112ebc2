-- Written by a program of this session (xprint.py), out of the translation and of contracts proved by hand.
import Derived.Test.YtofbkpdpgmjllaaF16
import Derived.Test.YtofbkpdpgmjllaaKF
namespace Go.Proofs.Ytofbkpdpgmjllaa.F
open Go.RowKit Go.Proofs.YtofbkpdpgmjllaaW.PrintWords Go.Proofs.YtofbkpdpgmjllaaW.PrintLast
/-- The pure statement of the law: over numbers, texts and lists alone. -/
def watchmanlaw21_PostKeeps.Pure : Prop := ∀ (a0_0 : Int) (l0_1 : List (S35)) (a1 : Int) (a2 : Int) (l3 : List ByteArray), (Lit.int .i64 a0_0).wf = true → l0_1.length * 40 ≤ 140737488351232 → (∀ y ∈ l0_1, v35 y) → (Lit.int .i64 a1).wf = true → (Lit.int .i64 a2).wf = true → l3.length * 16 ≤ 140737488351232 → (∀ y ∈ l3, y.size ≤ 140737488351232) → ∃ k, watchmanlaw21_PostKeeps.f k a0_0 l0_1 a1 a2 l3 = some true
end Go.Proofs.Ytofbkpdpgmjllaa.F
