-- Written by a program of this session (xprint.py), out of the translation and of contracts proved by hand.
import Derived.Test.YtcfpbmdndapeaaaF21
import Derived.Test.YtcfpbmdndapeaaaKF
namespace Go.Proofs.Ytcfpbmdndapeaaa.F
open Go.RowKit Go.Proofs.YtcfpbmdndapeaaaV.PrintWords Go.Proofs.YtcfpbmdndapeaaaV.PrintLast
/-- The pure statement of the law: over numbers, texts and lists alone. -/
def watchmanlaw08_BoardDoes.Pure : Prop := ∀ (a0_0 : Int) (a0_1 : Int) (l0_2 : List (S28)) (a1_0 : Int) (a1_1 : Int) (a1_2 : Int) (a1_3 : Int) (a1_4 : Int) (a1_5 : Int) (a2_0 : Int) (a2_1 : Int) (a3 : Int) (a4 : Int) (l5 : List Int), (Lit.int .i64 a0_0).wf = true → (Lit.int .i64 a0_1).wf = true → l0_2.length * 48 ≤ 140737488351232 → (∀ y ∈ l0_2, v28 y) → (Lit.int .i64 a1_0).wf = true → (Lit.int .i64 a1_1).wf = true → (Lit.int .i64 a1_2).wf = true → (Lit.int .i64 a1_3).wf = true → (Lit.int .i64 a1_4).wf = true → (Lit.int .i64 a1_5).wf = true → (Lit.int .i64 a2_0).wf = true → (Lit.int .i64 a2_1).wf = true → (Lit.int .i64 a3).wf = true → (Lit.int .i64 a4).wf = true → l5.length * 8 ≤ 140737488351232 → (∀ y ∈ l5, (Lit.int .i64 y).wf = true) → ∃ k, watchmanlaw08_BoardDoes.f k a0_0 a0_1 l0_2 a1_0 a1_1 a1_2 a1_3 a1_4 a1_5 a2_0 a2_1 a3 a4 l5 = some true
end Go.Proofs.Ytcfpbmdndapeaaa.F
