/- The pure statement of AlarmDoes: deed and time make of an alarm what the reference says. -/
import Derived.Test.YtlleifklioamlaaB
import Derived.Test.YtlleifklioamlaaRung
import Derived.Test.YtlleifklioamlaaQAlarmDoes
import Derived.Test.YtlleifklioamlaaF11
namespace Go.Proofs.Ytlleifklioamlaa.F
open Go.RowKit Go.Proofs.YtlleifklioamlaaW.PrintWords Go.Proofs.YtlleifklioamlaaW.PrintLast
theorem AlarmDoes_pure : watchmanlaw06_AlarmDoes.Pure := by
  intro b c p r s u d at_ n _ _ _ _ _ _ _ _ _
  refine ⟨8, ?_⟩
  unfold watchmanlaw06_AlarmDoes.f
  rw [alarm_Do_eq, Option.bind_some, ref06_Do_eq 6, Option.bind_some, rung_true 4, Option.bind_some, if_pos rfl, if_pos (by simp), if_pos rfl, alarm_Pass_eq 4, Option.bind_some, ref06_Pass_eq 0, Option.bind_some]
  simp
end Go.Proofs.Ytlleifklioamlaa.F
