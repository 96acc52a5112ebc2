-- Written by a program of this session (xprint.py), out of the translation and of contracts proved by hand.
import Derived.Test.YtncoccpgdgdknaaF8
import Derived.Test.YtncoccpgdgdknaaKF
namespace Go.Proofs.Ytncoccpgdgdknaa.F
open Go.RowKit Go.Proofs.YtncoccpgdgdknaaW.PrintWords Go.Proofs.YtncoccpgdgdknaaW.PrintLast
/-- The pure statement of the law: over numbers, texts and lists alone. -/
def watchmanlaw23_LogFront.Pure : Prop := ∀ (l0 : List ByteArray) (l1 : List ByteArray) (l2 : List ByteArray), l0.length * 16 ≤ 140737488351232 → (∀ y ∈ l0, y.size ≤ 140737488351232) → l1.length * 16 ≤ 140737488351232 → (∀ y ∈ l1, y.size ≤ 140737488351232) → l2.length * 16 ≤ 140737488351232 → (∀ y ∈ l2, y.size ≤ 140737488351232) → ∃ k, watchmanlaw23_LogFront.f k l0 l1 l2 = some true
end Go.Proofs.Ytncoccpgdgdknaa.F
