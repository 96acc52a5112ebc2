-- Written by a program of this session (xprint.py), out of the translation and of contracts proved by hand.
import Derived.Test.YtkhdpmbjjcmooaaF18
import Derived.Test.YtkhdpmbjjcmooaaKF
namespace Go.Proofs.Ytkhdpmbjjcmooaa.F
open Go.RowKit Go.Proofs.YtkhdpmbjjcmooaaV.PrintWords Go.Proofs.YtkhdpmbjjcmooaaV.PrintLast
/-- The pure statement of the law: over numbers, texts and lists alone. -/
def watchmanlaw18_SessionOldest.Pure : Prop := ∀ (l0 : List (S39)) (a1 : Int), l0.length * 64 ≤ 140737488351232 → (∀ y ∈ l0, v39 y) → (Lit.int .i64 a1).wf = true → ∃ k, watchmanlaw18_SessionOldest.f k l0 a1 = some true
end Go.Proofs.Ytkhdpmbjjcmooaa.F
