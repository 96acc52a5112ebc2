/- The pure statement of AlarmOpens: an alarm is right, opened and raised as the reference says. -/
import Derived.Test.YtlleifklioamlaaC
import Derived.Test.YtlleifklioamlaaRung
import Derived.Test.YtlleifklioamlaaQAlarmOpens
namespace Go.Proofs.Ytlleifklioamlaa.F
open Go.RowKit Go.Proofs.YtlleifklioamlaaV.PrintWords Go.Proofs.YtlleifklioamlaaV.PrintLast
theorem AlarmOpens_pure : watchmanlaw06_AlarmOpens.Pure := by
  intro b0 c0 b c p r s u q at_ _ _ _ _ _ _ _ _ _ _
  refine ⟨8, ?_⟩
  unfold watchmanlaw06_AlarmOpens.f
  rw [alarm_Open_eq, Option.bind_some, ref06_Open_eq, Option.bind_some, alarm_Raise_eq 7, Option.bind_some, ref06_Raise_eq 7, Option.bind_some, rung_true 4, Option.bind_some, if_pos rfl, alarm_Is_eq, Option.bind_some, ref06_Is_eq, Option.bind_some, if_pos (by simp), alarm_Wait_eq, Option.bind_some, ref06_Wait_eq, Option.bind_some, if_pos rfl, if_pos (by simp), if_pos rfl, if_pos (by simp)]
  simp
end Go.Proofs.Ytlleifklioamlaa.F
