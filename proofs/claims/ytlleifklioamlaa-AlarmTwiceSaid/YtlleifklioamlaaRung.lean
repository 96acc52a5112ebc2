/- The document's rows for an alarm hold. Plain facts. -/
import Derived.Test.YtlleifklioamlaaB
import Derived.Test.YtlleifklioamlaaF10
namespace Go.Proofs.Ytlleifklioamlaa.F
open Go.RowKit Go.Proofs.YtlleifklioamlaaV.PrintWords Go.Proofs.YtlleifklioamlaaV.PrintLast
/-- The document's rows hold, as they are reckoned here. -/
theorem rung_true (k : Nat) : watchmanlaw06_rung.f (k + 4) = some true := by
  unfold watchmanlaw06_rung.f
  simp only [alarm_Open_eq, alarm_Pass_eq, alarm_Do_eq, alarm_Is_eq, alarm_Wait_eq, Option.bind_some]
  rfl
end Go.Proofs.Ytlleifklioamlaa.F
