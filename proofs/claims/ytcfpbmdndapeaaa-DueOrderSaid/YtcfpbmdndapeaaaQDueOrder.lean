-- Written by a program of this session (xprint.py), out of the translation and of contracts proved by hand.
import Derived.Test.YtcfpbmdndapeaaaF20
import Derived.Test.YtcfpbmdndapeaaaKF
namespace Go.Proofs.Ytcfpbmdndapeaaa.F
open Go.RowKit Go.Proofs.YtcfpbmdndapeaaaV.PrintWords Go.Proofs.YtcfpbmdndapeaaaV.PrintLast
/-- The pure statement of the law: over numbers, texts and lists alone. -/
def watchmanlaw09_DueOrder.Pure : Prop := ∀ (l0 : List (S65)), l0.length * 32 ≤ 140737488351232 → (∀ y ∈ l0, v65 y) → ∃ k, watchmanlaw09_DueOrder.f k l0 = some true
end Go.Proofs.Ytcfpbmdndapeaaa.F
