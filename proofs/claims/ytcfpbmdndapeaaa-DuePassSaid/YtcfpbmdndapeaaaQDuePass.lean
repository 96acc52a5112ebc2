-- Written by a program of this session (xprint.py), out of the translation and of contracts proved by hand.
import Derived.Test.YtcfpbmdndapeaaaF21
import Derived.Test.YtcfpbmdndapeaaaKF
namespace Go.Proofs.Ytcfpbmdndapeaaa.F
open Go.RowKit Go.Proofs.YtcfpbmdndapeaaaV.PrintWords Go.Proofs.YtcfpbmdndapeaaaV.PrintLast
/-- The pure statement of the law: over numbers, texts and lists alone. -/
def watchmanlaw09_DuePass.Pure : Prop := ∀ (a0_0 : Int) (a0_1 : Int) (l0_2 : List (S28)) (a1 : Int), (Lit.int .i64 a0_0).wf = true → (Lit.int .i64 a0_1).wf = true → l0_2.length * 48 ≤ 140737488351232 → (∀ y ∈ l0_2, v28 y) → (Lit.int .i64 a1).wf = true → ∃ k, watchmanlaw09_DuePass.f k a0_0 a0_1 l0_2 a1 = some true
end Go.Proofs.Ytcfpbmdndapeaaa.F
