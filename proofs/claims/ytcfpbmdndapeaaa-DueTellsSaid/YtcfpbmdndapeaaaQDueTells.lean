-- Written by a program of this session (xprint.py), out of the translation and of contracts proved by hand.
import Derived.Test.YtcfpbmdndapeaaaF29
import Derived.Test.YtcfpbmdndapeaaaKF
namespace Go.Proofs.Ytcfpbmdndapeaaa.F
open Go.RowKit Go.Proofs.YtcfpbmdndapeaaaV.PrintWords Go.Proofs.YtcfpbmdndapeaaaV.PrintLast
/-- The pure statement of the law: over numbers, texts and lists alone. -/
def watchmanlaw09_DueTells.Pure : Prop := ∀ (a0_0 : Int) (a0_1 : Int) (l0_2 : List (S28)) (a1_0 : Int) (a1_1 : Int) (a2 : Int) (l3 : List (S65)), (Lit.int .i64 a0_0).wf = true → (Lit.int .i64 a0_1).wf = true → l0_2.length * 48 ≤ 140737488351232 → (∀ y ∈ l0_2, v28 y) → (Lit.int .i64 a1_0).wf = true → (Lit.int .i64 a1_1).wf = true → (Lit.int .i64 a2).wf = true → l3.length * 32 ≤ 140737488351232 → (∀ y ∈ l3, v65 y) → ∃ k, watchmanlaw09_DueTells.f k a0_0 a0_1 l0_2 a1_0 a1_1 a2 l3 = some true
end Go.Proofs.Ytcfpbmdndapeaaa.F
