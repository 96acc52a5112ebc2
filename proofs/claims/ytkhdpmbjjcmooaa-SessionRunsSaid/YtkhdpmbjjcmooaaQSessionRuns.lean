-- Written by a program of this session (xprint.py), out of the translation and of contracts proved by hand.
import Derived.Test.YtkhdpmbjjcmooaaF16
import Derived.Test.YtkhdpmbjjcmooaaKF
namespace Go.Proofs.Ytkhdpmbjjcmooaa.F
open Go.RowKit Go.Proofs.YtkhdpmbjjcmooaaV.PrintWords Go.Proofs.YtkhdpmbjjcmooaaV.PrintLast
/-- The pure statement of the law: over numbers, texts and lists alone. -/
def watchmanlaw18_SessionRuns.Pure : Prop := ∀ (a0 : Int) (l1 : List (S45)) (a2 : Int), (Lit.int .i64 a0).wf = true → l1.length * 64 ≤ 140737488351232 → (∀ y ∈ l1, v45 y) → (Lit.int .i64 a2).wf = true → ∃ k, watchmanlaw18_SessionRuns.f k a0 l1 a2 = some true
end Go.Proofs.Ytkhdpmbjjcmooaa.F
