-- Written by a program of this session (xprint.py), out of the translation and of contracts proved by hand.
import Derived.Test.YtofbkpdpgmjllaaF19
import Derived.Test.YtofbkpdpgmjllaaKF
namespace Go.Proofs.Ytofbkpdpgmjllaa.F
open Go.RowKit Go.Proofs.YtofbkpdpgmjllaaV.PrintWords Go.Proofs.YtofbkpdpgmjllaaV.PrintLast
/-- The pure statement of the law: over numbers, texts and lists alone. -/
def watchmanlaw21_PostDoes.Pure : Prop := ∀ (a0_0 : Int) (l0_1 : List (S35)) (a1 : Int) (a2 : Int) (a3 : Int) (l4 : List ByteArray) (l5 : List Int), (Lit.int .i64 a0_0).wf = true → l0_1.length * 40 ≤ 140737488351232 → (∀ y ∈ l0_1, v35 y) → (Lit.int .i64 a1).wf = true → (Lit.int .i64 a2).wf = true → (Lit.int .i64 a3).wf = true → l4.length * 16 ≤ 140737488351232 → (∀ y ∈ l4, y.size ≤ 140737488351232) → l5.length * 8 ≤ 140737488351232 → (∀ y ∈ l5, (Lit.int .i64 y).wf = true) → ∃ k, watchmanlaw21_PostDoes.f k a0_0 l0_1 a1 a2 a3 l4 l5 = some true
end Go.Proofs.Ytofbkpdpgmjllaa.F
