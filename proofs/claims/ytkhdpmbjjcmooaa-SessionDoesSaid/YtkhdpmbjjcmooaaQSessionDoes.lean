-- Written by a program of this session (xprint.py), out of the translation and of contracts proved by hand.
import Derived.Test.YtkhdpmbjjcmooaaF19
import Derived.Test.YtkhdpmbjjcmooaaKF
namespace Go.Proofs.Ytkhdpmbjjcmooaa.F
open Go.RowKit Go.Proofs.YtkhdpmbjjcmooaaV.PrintWords Go.Proofs.YtkhdpmbjjcmooaaV.PrintLast
/-- The pure statement of the law: over numbers, texts and lists alone. -/
def watchmanlaw18_SessionDoes.Pure : Prop := ∀ (l0 : List (S39)) (a1 : Int) (a2 : Int) (a3 : Int) (a4 : Int) (a5_0 : Int) (a5_1 : Int) (l5_2 : List ByteArray), l0.length * 64 ≤ 140737488351232 → (∀ y ∈ l0, v39 y) → (Lit.int .i64 a1).wf = true → (Lit.int .i64 a2).wf = true → (Lit.int .i64 a3).wf = true → (Lit.int .i64 a4).wf = true → (Lit.int .i64 a5_0).wf = true → (Lit.int .i64 a5_1).wf = true → l5_2.length * 16 ≤ 140737488351232 → (∀ y ∈ l5_2, y.size ≤ 140737488351232) → ∃ k, watchmanlaw18_SessionDoes.f k l0 a1 a2 a3 a4 a5_0 a5_1 l5_2 = some true
end Go.Proofs.Ytkhdpmbjjcmooaa.F
