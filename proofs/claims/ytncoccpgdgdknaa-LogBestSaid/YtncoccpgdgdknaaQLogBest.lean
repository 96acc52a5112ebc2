-- Written by a program of this session (xprint.py), out of the translation and of contracts proved by hand.
import Derived.Test.YtncoccpgdgdknaaF13
import Derived.Test.YtncoccpgdgdknaaKF
namespace Go.Proofs.Ytncoccpgdgdknaa.F
open Go.RowKit Go.Proofs.YtncoccpgdgdknaaW.PrintWords Go.Proofs.YtncoccpgdgdknaaW.PrintLast
/-- The pure statement of the law: over numbers, texts and lists alone. -/
def watchmanlaw23_LogBest.Pure : Prop := ∀ (l0 : List (S36)) (a1_0 : Int) (a1_1 : Int) (a1_2 : Int) (l1_3 : List ByteArray), l0.length * 48 ≤ 140737488351232 → (∀ y ∈ l0, v36 y) → (Lit.int .i64 a1_0).wf = true → (Lit.int .i64 a1_1).wf = true → (Lit.int .i64 a1_2).wf = true → l1_3.length * 16 ≤ 140737488351232 → (∀ y ∈ l1_3, y.size ≤ 140737488351232) → ∃ k, watchmanlaw23_LogBest.f k l0 a1_0 a1_1 a1_2 l1_3 = some true
end Go.Proofs.Ytncoccpgdgdknaa.F
