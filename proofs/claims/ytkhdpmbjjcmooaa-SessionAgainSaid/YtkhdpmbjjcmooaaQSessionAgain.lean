-- Written by a program of this session (xprint.py), out of the translation and of contracts proved by hand.
import Derived.Test.YtkhdpmbjjcmooaaF13
import Derived.Test.YtkhdpmbjjcmooaaKF
namespace Go.Proofs.Ytkhdpmbjjcmooaa.F
open Go.RowKit Go.Proofs.YtkhdpmbjjcmooaaV.PrintWords Go.Proofs.YtkhdpmbjjcmooaaV.PrintLast
/-- The pure statement of the law: over numbers, texts and lists alone. -/
def watchmanlaw18_SessionAgain.Pure : Prop := ∀ (l0 : List (S39)) (a1 : Int) (a2 : Int) (a3 : Int) (a4_0 : Int) (a4_1 : Int) (l4_2 : List ByteArray) (a5 : Int) (a6 : Int), l0.length * 64 ≤ 140737488351232 → (∀ y ∈ l0, v39 y) → (Lit.int .i64 a1).wf = true → (Lit.int .i64 a2).wf = true → (Lit.int .i64 a3).wf = true → (Lit.int .i64 a4_0).wf = true → (Lit.int .i64 a4_1).wf = true → l4_2.length * 16 ≤ 140737488351232 → (∀ y ∈ l4_2, y.size ≤ 140737488351232) → (Lit.int .i64 a5).wf = true → (Lit.int .i64 a6).wf = true → ∃ k, watchmanlaw18_SessionAgain.f k l0 a1 a2 a3 a4_0 a4_1 l4_2 a5 a6 = some true
end Go.Proofs.Ytkhdpmbjjcmooaa.F
