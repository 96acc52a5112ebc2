-- Written by a program of this session (xprint.py), out of the translation and of contracts proved by hand.
import Derived.Test.YtncoccpgdgdknaaF13
import Derived.Test.YtncoccpgdgdknaaKF
namespace Go.Proofs.Ytncoccpgdgdknaa.F
open Go.RowKit Go.Proofs.YtncoccpgdgdknaaV.PrintWords Go.Proofs.YtncoccpgdgdknaaV.PrintLast
/-- The pure statement of the law: over numbers, texts and lists alone. -/
def watchmanlaw23_LogDoes.Pure : Prop := ∀ (l0 : List ByteArray) (l1 : List ByteArray) (a2 : Int) (a3 : ByteArray) (l4 : List (S36)) (a5_0 : Int) (a5_1 : Int) (a5_2 : Int) (l5_3 : List ByteArray), l0.length * 16 ≤ 140737488351232 → (∀ y ∈ l0, y.size ≤ 140737488351232) → l1.length * 16 ≤ 140737488351232 → (∀ y ∈ l1, y.size ≤ 140737488351232) → (Lit.int .i64 a2).wf = true → a3.size ≤ 140737488351232 → l4.length * 48 ≤ 140737488351232 → (∀ y ∈ l4, v36 y) → (Lit.int .i64 a5_0).wf = true → (Lit.int .i64 a5_1).wf = true → (Lit.int .i64 a5_2).wf = true → l5_3.length * 16 ≤ 140737488351232 → (∀ y ∈ l5_3, y.size ≤ 140737488351232) → ∃ k, watchmanlaw23_LogDoes.f k l0 l1 a2 a3 l4 a5_0 a5_1 a5_2 l5_3 = some true
end Go.Proofs.Ytncoccpgdgdknaa.F
