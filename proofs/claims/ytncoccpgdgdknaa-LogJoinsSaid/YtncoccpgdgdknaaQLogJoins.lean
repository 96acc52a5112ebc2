-- Written by a program of this session (xprint.py), out of the translation and of contracts proved by hand.
import Derived.Test.YtncoccpgdgdknaaF10
import Derived.Test.YtncoccpgdgdknaaKF
namespace Go.Proofs.Ytncoccpgdgdknaa.F
open Go.RowKit Go.Proofs.YtncoccpgdgdknaaW.PrintWords Go.Proofs.YtncoccpgdgdknaaW.PrintLast
/-- The pure statement of the law: over numbers, texts and lists alone. -/
def watchmanlaw23_LogJoins.Pure : Prop := ∀ (l0 : List ByteArray) (a1 : Int) (l2 : List ByteArray), l0.length * 16 ≤ 140737488351232 → (∀ y ∈ l0, y.size ≤ 140737488351232) → (Lit.int .i64 a1).wf = true → l2.length * 16 ≤ 140737488351232 → (∀ y ∈ l2, y.size ≤ 140737488351232) → ∃ k, watchmanlaw23_LogJoins.f k l0 a1 l2 = some true
end Go.Proofs.Ytncoccpgdgdknaa.F
